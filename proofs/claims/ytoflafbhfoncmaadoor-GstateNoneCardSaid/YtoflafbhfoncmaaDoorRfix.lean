/- What the reference's functions on numbers return, each over all numbers: the same as those of package fix. No condition. -/
import Derived.Test.YtoflafbhfoncmaaDoorRows
import Derived.Test.YtoflafbhfoncmaaDoorFixM
import Derived.Test.YtoflafbhfoncmaaDoorBase
import Derived.WalkKit
import Derived.ProofKit
import Derived.OpenShut
import Derived.BigQuiet
import Derived.Deep.QuietTactic
import Derived.Lib.Hide
import Derived.Handy
namespace Go.Proofs.YtoflafbhfoncmaaDoor.Rfix
open Go.ChangeShapes Go.WideShapes Go.ChangeAt Go.RowKit
open Go.Proofs.YtoflafbhfoncmaaDoor.FixM (fits within rnd rndp add sub mul div)





end Go.Proofs.YtoflafbhfoncmaaDoor.Rfix
