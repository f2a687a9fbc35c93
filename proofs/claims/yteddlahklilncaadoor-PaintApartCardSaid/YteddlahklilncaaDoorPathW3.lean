/- Segments are added to a path. -/
import Derived.Test.YteddlahklilncaaDoorPathW2
import Derived.Test.YteddlahklilncaaDoorArgs
import Derived.Deep.AppendLies
namespace Go.Proofs.YteddlahklilncaaDoor.Path
open Go.ChangeShapes Go.WideShapes Go.ChangeAt Go.RowKit
open Go.Proofs.YteddlahklilncaaDoor.FixM (fits)
open Go.Proofs.YteddlahklilncaaDoor.PathM
set_option linter.unusedVariables false
set_option linter.unusedSimpArgs false

theorem infoSeg : (Tryd.prog.info? 68).map (fun i => (i.zero, i.size, i.bytes)) = some (some (.agg #[.int .i64 0, .int .i64 0, .int .i64 0, .int .i64 0, .int .i64 0, .int .i64 0, .int .i64 0]), 7, 56) := by kernel_rfl

end Go.Proofs.YteddlahklilncaaDoor.Path
