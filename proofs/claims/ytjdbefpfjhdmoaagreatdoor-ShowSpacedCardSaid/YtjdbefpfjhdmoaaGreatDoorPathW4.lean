/- A path is drawn on. -/
import Derived.Test.YtjdbefpfjhdmoaaGreatDoorPathW3
import Derived.Deep.RegionHeld3
namespace Go.Proofs.YtjdbefpfjhdmoaaGreatDoor.Path
open Go.ChangeShapes Go.WideShapes Go.ChangeAt Go.RowKit
open Go.Proofs.YtjdbefpfjhdmoaaGreatDoor.FixM (fits)
open Go.Proofs.YtjdbefpfjhdmoaaGreatDoor.PathM
set_option linter.unusedVariables false
set_option linter.unusedSimpArgs false

end Go.Proofs.YtjdbefpfjhdmoaaGreatDoor.Path
