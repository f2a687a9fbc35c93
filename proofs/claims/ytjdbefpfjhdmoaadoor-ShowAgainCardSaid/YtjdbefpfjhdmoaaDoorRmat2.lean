/- What the functions that join and invert matrices return, in package mat and in its reference, each over all numbers. No condition. -/
import Derived.Test.YtjdbefpfjhdmoaaDoorMat
import Derived.Test.YtjdbefpfjhdmoaaDoorRmat
import Derived.Test.YtjdbefpfjhdmoaaDoorMatM2
namespace Go.Proofs.YtjdbefpfjhdmoaaDoor.Mat2
open Go.ChangeShapes Go.WideShapes Go.ChangeAt Go.RowKit
open Go.Proofs.YtjdbefpfjhdmoaaDoor.FixM (fits mul div sub add sum sqrt)
open Go.Proofs.YtjdbefpfjhdmoaaDoor.MatM
set_option linter.unusedVariables false
set_option linter.unusedSimpArgs false

theorem rinfo6 : (Tryd.prog.info? 22).map (·.size) = some 6 := by kernel_rfl

theorem ridentity_calls (w : World) :
    Calls Tryd.prog 47 #[] w fun E w' => E = .returned (.agg #[.int .i64 65536, .int .i64 0, .int .i64 0, .int .i64 65536, .int .i64 0, .int .i64 0]) ∧ Up w w' := by
  go_enter Tryd.func47, Tryd.ntmps47
  go_wp2
  go_returns
  exact ⟨rfl, by (repeat' (first | (with_reducible exact Up.refl _) | (with_reducible assumption) | (with_reducible refine Up.alloc ?_ _) | (with_reducible refine Up.drew ?_) | (with_reducible refine Up.drewN ?_ _) | (with_reducible refine Up.setCell ?_ ?_ _) | (with_reducible refine Up.call ?_ (by with_reducible assumption)) | go_size))⟩

end Go.Proofs.YtjdbefpfjhdmoaaDoor.Mat2
