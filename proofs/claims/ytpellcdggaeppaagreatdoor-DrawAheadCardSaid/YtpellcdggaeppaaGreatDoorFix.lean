/- What the functions of package fix return, each over all numbers. No condition. -/
import Derived.Test.YtpellcdggaeppaaGreatDoorRows
import Derived.Test.YtpellcdggaeppaaGreatDoorFixM
import Derived.Test.YtpellcdggaeppaaGreatDoorBase
import Derived.WalkKit
import Derived.ProofKit
import Derived.OpenShut
import Derived.BigQuiet
import Derived.Deep.QuietTactic
import Derived.Lib.Hide
import Derived.Handy
namespace Go.Proofs.YtpellcdggaeppaaGreatDoor.Fix
open Go.ChangeShapes Go.WideShapes Go.ChangeAt Go.RowKit
open Go.Proofs.YtpellcdggaeppaaGreatDoor.FixM (fits within rnd rndp add sub mul div)

theorem fits_calls (n : Int) (w : World) :
    Calls Tryz.prog 111 #[.int .i64 n] w fun e w' => e = .returned (.bool (fits n)) ∧ w = w' := by
  by_cases h1 : -2147483648 ≤ n
  · by_cases h2 : n ≤ 2147483647
    · have HH := Lib.hid (FixM.fits_true h1 h2)
      go_enter Tryz.func111, Tryz.ntmps111
      go_wp2
      go_ret
      exact ⟨retb (by rw [HH.out]), rfl⟩
    · have HH := Lib.hid (show fits n = false from FixM.fits_false.2 (by omega))
      go_enter Tryz.func111, Tryz.ntmps111
      go_wp2
      go_ret
      exact ⟨retb (by rw [HH.out]), rfl⟩
  · have HH := Lib.hid (show fits n = false from FixM.fits_false.2 (by omega))
    go_enter Tryz.func111, Tryz.ntmps111
    go_wp2
    go_ret
    exact ⟨retb (by rw [HH.out]), rfl⟩

end Go.Proofs.YtpellcdggaeppaaGreatDoor.Fix
