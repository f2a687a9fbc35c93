/- What the functions that join and invert matrices return, in package mat and in its reference, each over all numbers. No condition. -/
import Derived.Test.YtonmakmnencihaaDoorMat
import Derived.Test.YtonmakmnencihaaDoorRmat
import Derived.Test.YtonmakmnencihaaDoorMatM2
namespace Go.Proofs.YtonmakmnencihaaDoor.Mat2
open Go.ChangeShapes Go.WideShapes Go.ChangeAt Go.RowKit
open Go.Proofs.YtonmakmnencihaaDoor.FixM (fits mul div sub add sum sqrt)
open Go.Proofs.YtonmakmnencihaaDoor.MatM
set_option linter.unusedVariables false
set_option linter.unusedSimpArgs false

theorem info6 : (Tryd.prog.info? 22).map (·.size) = some 6 := by kernel_rfl

theorem stretch_calls (x y : Int) (w : World) :
    Calls Tryd.prog 13 #[.int .i64 x, .int .i64 y] w fun E w' => E = .returned (.agg #[.int .i64 x, .int .i64 0, .int .i64 0, .int .i64 y, .int .i64 0, .int .i64 0]) ∧ Up w w' := by
  go_enter Tryd.func13, Tryd.ntmps13
  go_wp2
  go_returns
  exact ⟨rfl, by (repeat' (first | (with_reducible exact Up.refl _) | (with_reducible assumption) | (with_reducible refine Up.alloc ?_ _) | (with_reducible refine Up.drew ?_) | (with_reducible refine Up.drewN ?_ _) | (with_reducible refine Up.setCell ?_ ?_ _) | (with_reducible refine Up.call ?_ (by with_reducible assumption)) | go_size))⟩

end Go.Proofs.YtonmakmnencihaaDoor.Mat2
