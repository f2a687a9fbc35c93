/- What the reference's functions on whole numbers and roots return, each over all numbers. No condition. -/
import Derived.Test.YtonmakmnencihaaDoorFix
import Derived.Test.YtonmakmnencihaaDoorRfix
import Derived.Test.YtonmakmnencihaaDoorBits
namespace Go.Proofs.YtonmakmnencihaaDoor.Rfix
open Go.ChangeShapes Go.WideShapes Go.ChangeAt Go.RowKit
open Go.Proofs.YtonmakmnencihaaDoor.FixM (fits within rnd rndp add sub mul div floor ceiling round truncate fromInt sqrt sqF root near Root)

/-- the greatest multiple that is not above -/
theorem below_calls (a : Int) (w : World) (h1 : -2147483648 ≤ a) (h2 : a ≤ 2147483647) :
    Calls Tryd.prog 10 #[.int .i64 a] w fun e w' => e = .returned (.int .i64 (a - a % 65536)) ∧ w = w' := by
  have e1 := Int.mul_tdiv_add_tmod a 65536
  by_cases hs : 0 ≤ a
  · have d : decide (a % 65536 < 0) = false := decide_eq_false (by omega)
    go_enter Tryd.func10, Tryd.ntmps10
    go_wp2
    go_ret
    exact ⟨rfl, rfl⟩
  · obtain ⟨-, k1, k2, -, k3, -⟩ := FixM.tdm a 65536 (by decide)
    have k4 := k3 (by omega)
    have em : a.tmod 65536 = if a % 65536 = 0 then 0 else a % 65536 - 65536 := by omega
    have HM := Lib.hid em
    clear e1 em k3
    by_cases hz : a.tmod 65536 < 0
    · have d : decide (a.tmod 65536 < 0) = true := decide_eq_true hz
      go_enter Tryd.func10, Tryd.ntmps10
      go_wp2
      go_ret
      exact ⟨reti (by have := HM.out; split at this <;> omega), rfl⟩
    · have d : decide (a.tmod 65536 < 0) = false := decide_eq_false hz
      go_enter Tryd.func10, Tryd.ntmps10
      go_wp2
      go_ret
      exact ⟨reti (by have := HM.out; split at this <;> omega), rfl⟩

/-- the reference's two ways round the last unit -/
theorem near_ref (n r : Int) : near n r = if (r + 1) * (r + 1) - n < n - r * r then r + 1 else r := by
  have e : (r + 1) * (r + 1) = r * r + 2 * r + 1 := by
    rw [Int.add_mul, Int.mul_add]; omega
  rw [e, near]
  split <;> split <;> omega

end Go.Proofs.YtonmakmnencihaaDoor.Rfix
