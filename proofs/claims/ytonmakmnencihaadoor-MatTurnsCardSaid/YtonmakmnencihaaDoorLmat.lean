/- That Apply answers at all, as the laws of layer 3 ask. No condition. -/
import Derived.Test.YtonmakmnencihaaDoorMat2
import Derived.Test.YtonmakmnencihaaDoorRmat2
import Derived.Test.YtonmakmnencihaaDoorArgs
namespace Go.Proofs.YtonmakmnencihaaDoor.Lmat
open Go.ChangeShapes Go.WideShapes Go.ChangeAt Go.RowKit
open Go.Proofs.YtonmakmnencihaaDoor.FixM (fits mul div sub add sum sqrt)
open Go.Proofs.YtonmakmnencihaaDoor.MatM
set_option linter.unusedVariables false
set_option linter.unusedSimpArgs false

theorem info2 : (Tryd.prog.info? 31).map (·.size) = some 2 := by kernel_rfl

theorem answers_calls (w : World) : Calls Tryd.prog 6 #[] w fun E w' => E = .returned (.bool true) ∧ Up w w' := by
  go_enter Tryd.func6, Tryd.ntmps6
  have hv : apply 131072 0 0 196608 0 0 65536 65536 = ((131072, 196608), 0) := by decide +kernel
  go_wp2_with (first
    | (go_at_call 13; ((with_reducible refine (Mat2.stretch_calls 131072 196608 _).mono ?_); rintro E w1 ⟨rfl, hu1⟩; have hz1 := hu1.size))
    | (go_at_call 12; ((with_reducible refine (Mat.apply_calls 131072 0 0 196608 0 0 65536 65536 _ (by decide) (by decide)).mono ?_); rintro E w2 ⟨rfl, hu2⟩; have hz2 := hu2.size; rw [hv])))
  go_ret
  exact ⟨rfl, by (repeat' (first | (with_reducible exact Up.refl _) | (with_reducible assumption) | (with_reducible refine Up.alloc ?_ _) | (with_reducible refine Up.drew ?_) | (with_reducible refine Up.drewN ?_ _) | (with_reducible refine Up.setCell ?_ ?_ _) | (with_reducible refine Up.call ?_ (by with_reducible assumption)) | go_size))⟩

end Go.Proofs.YtonmakmnencihaaDoor.Lmat
