/- Which items of a page are sound: the plain tests, and paint's functions walked. Its condition: the fonts' names lie as they are laid. -/
import Derived.Test.YtoflafbhfoncmaaDoorGPt1
import Derived.Test.YtoflafbhfoncmaaDoorEq6
namespace Go.Proofs.YtoflafbhfoncmaaDoor.Pt
open Go.ChangeShapes Go.WideShapes Go.ChangeAt Go.RowKit
open Go.Proofs.YtoflafbhfoncmaaDoor.FixM (fits)
open Go.Proofs.YtoflafbhfoncmaaDoor.PathM (Seg sound)
open Go.Proofs.YtoflafbhfoncmaaDoor.MatM (M6)
set_option linter.unusedVariables false
set_option linter.unusedSimpArgs false

def sideR (n : Int) : Bool := decide (65536 ≤ n) && (decide (n ≤ 943718400) && (n.tmod 65536 == 0))

end Go.Proofs.YtoflafbhfoncmaaDoor.Pt
