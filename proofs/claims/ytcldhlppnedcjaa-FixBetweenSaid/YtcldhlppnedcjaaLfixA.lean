/- What the laws of layer 1 call besides: 'same' and 'answers'. No condition. -/
import Derived.Test.YtcldhlppnedcjaaFix
import Derived.Test.YtcldhlppnedcjaaRfix
namespace Go.Proofs.Ytcldhlppnedcjaa.Lfix
open Go.ChangeShapes Go.WideShapes Go.ChangeAt Go.RowKit
open Go.Proofs.Ytcldhlppnedcjaa.FixM (fits within rnd rndp add sub mul div)

theorem same_calls (n e : Int) (w : World) :
    Calls Try.prog 15 #[.int .i64 n, .int .i64 e, .int .i64 n, .int .i64 e] w fun e w' => e = .returned (.bool true) ∧ w = w' := by
  go_enter Try.func15, Try.ntmps15
  go_wp2
  go_ret
  exact ⟨rfl, rfl⟩

theorem answers_calls (w : World) : Calls Try.prog 14 #[] w fun e w' => e = .returned (.bool true) ∧ Up w w' := by
  have H : mul 32768 196608 = (98304, 0) := by decide
  go_enter Try.func14, Try.ntmps14
  go_wp2_with (go_at_call 10; ((with_reducible refine (Fix.mul_calls _ _ _).mono ?_); rintro e w' ⟨rfl, hu⟩))
  go_ret
  exact ⟨rfl, by (repeat' (first | (with_reducible exact Up.refl _) | (with_reducible assumption) | (with_reducible refine Up.alloc ?_ _) | (with_reducible refine Up.drew ?_) | (with_reducible refine Up.drewN ?_ _) | (with_reducible refine Up.setCell ?_ ?_ _) | (with_reducible refine Up.call ?_ (by with_reducible assumption)) | go_size))⟩

end Go.Proofs.Ytcldhlppnedcjaa.Lfix
