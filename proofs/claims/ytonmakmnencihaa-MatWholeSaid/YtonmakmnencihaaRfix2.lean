/- What the reference's functions on whole numbers and roots return, each over all numbers. No condition. -/
import Derived.Test.YtonmakmnencihaaFix
import Derived.Test.YtonmakmnencihaaRfix
import Derived.Test.YtonmakmnencihaaBits
namespace Go.Proofs.Ytonmakmnencihaa.Rfix
open Go.ChangeShapes Go.WideShapes Go.ChangeAt Go.RowKit
open Go.Proofs.Ytonmakmnencihaa.FixM (fits within rnd rndp add sub mul div floor ceiling round truncate fromInt sqrt sqF root near Root)

/-- the reference's two ways round the last unit -/
theorem near_ref (n r : Int) : near n r = if (r + 1) * (r + 1) - n < n - r * r then r + 1 else r := by
  have e : (r + 1) * (r + 1) = r * r + 2 * r + 1 := by
    rw [Int.add_mul, Int.mul_add]; omega
  rw [e, near]
  split <;> split <;> omega

theorem sqrt_calls (a : Int) (w : World) :
    Calls Try.prog 36 #[.int .i64 a] w fun e w' => e = .returned (.tuple #[.int .i64 (sqrt a).1, .int .i64 (sqrt a).2]) ∧ w = w' := by
  by_cases hf : fits a = true
  · by_cases hs : a < 0
    · have H := Lib.hid (show sqrt a = (0, 11) by simp [sqrt, hf, Int.not_le.2 hs])
      go_enter Try.func36, Try.ntmps36
      go_wp2_with (go_at_call 15; ((with_reducible refine (fits_calls _ _).mono ?_); rintro e w' ⟨rfl, rfl⟩))
      go_ret2
      exact ⟨by rw [H.out]; rfl, rfl⟩
    · obtain ⟨h1, h2⟩ := FixM.fits_iff.1 hf
      have hs' : 0 ≤ a := by omega
      have H := Lib.hid (show sqrt a = (near (a * 65536) (root (a * 65536)), 0) by simp [sqrt, hf, hs'])
      have HR := Lib.hid (FixM.root_root (n := a * 65536) (by omega) (by omega))
      have d1 : decide (a < 0) = false := decide_eq_false hs
      go_enter Try.func36, Try.ntmps36
      go_wp2_with (go_at_call 15; ((with_reducible refine (fits_calls _ _).mono ?_); rintro e w' ⟨rfl, rfl⟩))
      clear d1 hs
      go_loop [5, 6] (fun l h => ∃ (x y : Int), l = .int .i64 x ∧ h = .int .i64 y ∧ 0 ≤ x ∧ x ≤ y ∧ y ≤ 12000000 ∧ x * x ≤ a * 65536 ∧ a * 65536 < (y + 1) * (y + 1)) (fun l h => (intOf h - intOf l).toNat)
      case atStart => exact ⟨0, 12000000, rfl, rfl, by decide, by decide, by decide, by omega, by omega⟩
      case round =>
        obtain ⟨x, y, rfl, rfl, hx0, hxy, hy, hx2, hy2⟩ := hrel
        by_cases hlt : x < y
        · have hm1 : x + 1 ≤ (x + y + 1) / 2 := by omega
          have hm2 : (x + y + 1) / 2 ≤ y := by omega
          have hd : decide (x < y) = true := decide_eq_true hlt
          generalize hz : (x + y + 1) / 2 = z at *
          have HZ := Lib.hid hz
          have hz3 : 0 ≤ z * z := Int.mul_nonneg (by omega) (by omega)
          have hz4 : z * z ≤ 144000000000000 := by
            by_cases c : z = 12000000
            · rw [c]; decide
            · have := FixM.sq_lt (a := z) (b := 12000000) (by omega) (by omega)
              omega
          by_cases c : z * z ≤ a * 65536
          · go_wp2
            go_round
            case rel => exact ⟨z, y, by first | rfl | exact congrArg (Value.int .i64) HZ.out, rfl, by omega, hm2, hy, c, hy2⟩
            case measure => simp [intOf]; omega
          · have e : z - 1 + 1 = z := by omega
            have E := Lib.hid e
            clear e
            go_wp2
            go_round
            case rel => exact ⟨x, z - 1, rfl, by first | rfl | exact congrArg (fun i => Value.int .i64 (i - 1)) HZ.out, hx0, by omega, by omega, hx2, by rw [E.out]; omega⟩
            case measure => simp [intOf]; omega
        · obtain rfl : x = y := by omega
          have hxr : x = root (a * 65536) := FixM.Root.uniq ⟨hx0, hx2, hy2⟩ HR.out
          have HX := Lib.hid hxr
          clear hxr
          have hn : 0 ≤ x * x := Int.mul_nonneg hx0 hx0
          have hn2 : (x + 1) * (x + 1) ≤ 144000024000001 := by
            by_cases c : x = 12000000
            · rw [c]; decide
            · have := FixM.sq_lt (a := x + 1) (b := 12000001) (by omega) (by omega)
              omega
          have hn3 : 0 ≤ (x + 1) * (x + 1) := Int.mul_nonneg (by omega) (by omega)
          have hd : decide (x < x) = false := decide_eq_false (by omega)
          by_cases c : (x + 1) * (x + 1) - a * 65536 < a * 65536 - x * x
          · have HN := Lib.hid (show near (a * 65536) (root (a * 65536)) = x + 1 by rw [← HX.out, near_ref, if_pos c])
            go_wp2
            go_ret2
            exact ⟨by rw [H.out, HN.out]; rfl, rfl⟩
          · have HN := Lib.hid (show near (a * 65536) (root (a * 65536)) = x by rw [← HX.out, near_ref, if_neg c])
            go_wp2
            go_ret2
            exact ⟨by rw [H.out, HN.out]; rfl, rfl⟩
  · have hf : fits a = false := by simpa using hf
    have H := Lib.hid (show sqrt a = (0, 11) by simp [sqrt, hf])
    go_enter Try.func36, Try.ntmps36
    go_wp2_with (go_at_call 15; ((with_reducible refine (fits_calls _ _).mono ?_); rintro e w' ⟨rfl, rfl⟩))
    go_ret2
    exact ⟨by rw [H.out]; rfl, rfl⟩

end Go.Proofs.Ytonmakmnencihaa.Rfix
