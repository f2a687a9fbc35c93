/- That Apply answers at all, as the laws of layer 3 ask. No condition. -/
import Derived.Test.YtonmakmnencihaaMat2
import Derived.Test.YtonmakmnencihaaRmat2
import Derived.Test.YtonmakmnencihaaArgs
namespace Go.Proofs.Ytonmakmnencihaa.Lmat
open Go.ChangeShapes Go.WideShapes Go.ChangeAt Go.RowKit
open Go.Proofs.Ytonmakmnencihaa.FixM (fits mul div sub add sum sqrt)
open Go.Proofs.Ytonmakmnencihaa.MatM
set_option linter.unusedVariables false
set_option linter.unusedSimpArgs false

theorem info2 : (Try.prog.info? 24).map (·.size) = some 2 := by kernel_rfl

theorem answers_calls (w : World) : Calls Try.prog 12 #[] w fun E w' => E = .returned (.bool true) ∧ Up w w' := by
  go_enter Try.func12, Try.ntmps12
  have hv : apply 131072 0 0 196608 0 0 65536 65536 = ((131072, 196608), 0) := by decide +kernel
  go_wp2_with (first
    | (go_at_call 14; ((with_reducible refine (Mat2.stretch_calls 131072 196608 _).mono ?_); rintro E w1 ⟨rfl, hu1⟩; have hz1 := hu1.size))
    | (go_at_call 8; ((with_reducible refine (Mat.apply_calls 131072 0 0 196608 0 0 65536 65536 _ (by decide) (by decide)).mono ?_); rintro E w2 ⟨rfl, hu2⟩; have hz2 := hu2.size; rw [hv])))
  go_ret
  exact ⟨rfl, by (repeat' (first | (with_reducible exact Up.refl _) | (with_reducible assumption) | (with_reducible refine Up.alloc ?_ _) | (with_reducible refine Up.drew ?_) | (with_reducible refine Up.drewN ?_ _) | (with_reducible refine Up.setCell ?_ ?_ _) | (with_reducible refine Up.call ?_ (by with_reducible assumption)) | go_size))⟩

end Go.Proofs.Ytonmakmnencihaa.Lmat
