/- What the reference's functions on numbers return, each over all numbers: the same as those of package fix. No condition. -/
import Derived.Test.YteddlahklilncaaDoorRows
import Derived.Test.YteddlahklilncaaDoorFixM
import Derived.Test.YteddlahklilncaaDoorBase
import Derived.WalkKit
import Derived.ProofKit
import Derived.OpenShut
import Derived.BigQuiet
import Derived.Deep.QuietTactic
import Derived.Lib.Hide
import Derived.Handy
namespace Go.Proofs.YteddlahklilncaaDoor.Rfix
open Go.ChangeShapes Go.WideShapes Go.ChangeAt Go.RowKit
open Go.Proofs.YteddlahklilncaaDoor.FixM (fits within rnd rndp add sub mul div)

theorem fits_calls (n : Int) (w : World) :
    Calls Tryd.prog 25 #[.int .i64 n] w fun e w' => e = .returned (.bool (fits n)) ∧ w = w' := by
  by_cases h1 : -2147483648 ≤ n
  · by_cases h2 : n ≤ 2147483647
    · have HH := Lib.hid (FixM.fits_true h1 h2)
      go_enter Tryd.func25, Tryd.ntmps25
      go_wp2
      go_ret
      exact ⟨retb (by rw [HH.out]), rfl⟩
    · have HH := Lib.hid (show fits n = false from FixM.fits_false.2 (by omega))
      go_enter Tryd.func25, Tryd.ntmps25
      go_wp2
      go_ret
      exact ⟨retb (by rw [HH.out]), rfl⟩
  · have HH := Lib.hid (show fits n = false from FixM.fits_false.2 (by omega))
    go_enter Tryd.func25, Tryd.ntmps25
    go_wp2
    go_ret
    exact ⟨retb (by rw [HH.out]), rfl⟩





end Go.Proofs.YteddlahklilncaaDoor.Rfix
