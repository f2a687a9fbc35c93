/- What the functions of package fix on whole numbers and roots return, each over all numbers. No condition. -/
import Derived.Test.YteddlahklilncaaFix
import Derived.Test.YteddlahklilncaaBits
namespace Go.Proofs.Yteddlahklilncaa.Fix
open Go.ChangeShapes Go.WideShapes Go.ChangeAt Go.RowKit
open Go.Proofs.Yteddlahklilncaa.FixM (fits within rnd rndp add sub mul div floor ceiling round truncate fromInt sqrt sqF root near Root)

/-- the bit that a round of 'Sqrt' tries, k rounds ahead of the end -/
def bitAt : Nat → Int
  | 0 => 0
  | k + 1 => 2 ^ k
theorem bitAt_half (k : Nat) : (2 : Int) ^ k / 2 = bitAt k := by
  cases k with
  | zero => decide
  | succ k => simp only [bitAt, Int.pow_succ]; omega

theorem sqrt_calls (a : Int) (w : World) :
    Calls Try.prog 56 #[.int .i64 a] w fun e w' => e = .returned (.tuple #[.int .i64 (sqrt a).1, .int .i64 (sqrt a).2]) ∧ w = w' := by
  by_cases hf : fits a = true
  · by_cases hs : a < 0
    · have H := Lib.hid (show sqrt a = (0, 11) by simp [sqrt, hf, Int.not_le.2 hs])
      go_enter Try.func56, Try.ntmps56
      go_wp2_with (go_at_call 37; ((with_reducible refine (fits_calls _ _).mono ?_); rintro e w' ⟨rfl, rfl⟩))
      go_ret2
      exact ⟨by rw [H.out]; rfl, rfl⟩
    · obtain ⟨h1, h2⟩ := FixM.fits_iff.1 hf
      have hs' : 0 ≤ a := by omega
      have H := Lib.hid (show sqrt a = (near (a * 65536) (root (a * 65536)), 0) by simp [sqrt, hf, hs'])
      have HR := Lib.hid (FixM.root_root (n := a * 65536) (by omega) (by omega))
      have d1 : decide (a < 0) = false := decide_eq_false hs
      go_enter Try.func56, Try.ntmps56
      go_wp2_with (go_at_call 37; ((with_reducible refine (fits_calls _ _).mono ?_); rintro e w' ⟨rfl, rfl⟩))
      clear d1 hs
      go_loop [5, 6] (fun r z => ∃ (k : Nat) (x : Int), k ≤ 25 ∧ z = .int .i64 (bitAt k) ∧ r = .int .i64 x ∧ 0 ≤ x ∧ x * x ≤ a * 65536 ∧ Hid (sqF k (a * 65536) x = root (a * 65536))) (fun _ z => (intOf z).toNat)
      case atStart => exact ⟨25, 0, by decide, rfl, rfl, by decide, by omega, Lib.hid rfl⟩
      case round =>
        obtain ⟨k, x, hk, rfl, rfl, hx0, hxx, HS⟩ := hrel
        have hx1 : x < 16777216 := by
          by_cases c : x < 16777216
          · exact c
          · exfalso
            have : (16777216 : Int) * 16777216 ≤ x * x := by
              by_cases e : (16777216 : Int) = x
              · rw [← e]; exact Int.le_refl _
              · exact Int.le_of_lt (FixM.sq_lt (by decide) (by omega))
            omega
        cases k with
        | zero =>
          have hxr : x = root (a * 65536) := HS.out
          have HX := Lib.hid hxr
          clear hxr HS
          have hn : 0 ≤ x * x := Int.mul_nonneg hx0 hx0
          by_cases c : x < a * 65536 - x * x
          · have HN := Lib.hid (show near (a * 65536) (root (a * 65536)) = x + 1 by rw [← HX.out, near, if_pos c])
            rw [show bitAt 0 = 0 from rfl]
            go_wp2
            go_ret2
            exact ⟨by rw [H.out, HN.out]; rfl, rfl⟩
          · have HN := Lib.hid (show near (a * 65536) (root (a * 65536)) = x by rw [← HX.out, near, if_neg c])
            rw [show bitAt 0 = 0 from rfl]
            go_wp2
            go_ret2
            exact ⟨by rw [H.out, HN.out]; rfl, rfl⟩
        | succ k =>
          have hp := FixM.pow_pos' k
          have hp2 : (2 : Int) ^ k ≤ 16777216 := by
            have := Nat.pow_le_pow_right (n := 2) (by decide) (show k ≤ 24 by omega)
            have : ((2 ^ k : Nat) : Int) ≤ ((2 ^ 24 : Nat) : Int) := by exact_mod_cast this
            simpa using this
          have HB := Lib.hid (bitAt_half k)
          have HQ := Lib.hid (show sqF (k + 1) (a * 65536) x = _ from rfl)
          have HS' := HS.out
          simp only [sqF] at HS'
          rw [show bitAt (k + 1) = 2 ^ k from rfl]
          generalize hz : (2 : Int) ^ k = z at *
          have HZ := Lib.hid hz
          clear hz HQ HS
          have hn : 0 ≤ (x + z) * (x + z) := Int.mul_nonneg (by omega) (by omega)
          have hn2 : (x + z) * (x + z) ≤ 1125899906842624 := by
            have := FixM.sq_lt (a := x + z) (b := 33554432) (by omega) (by omega)
            omega
          have hzp : decide (0 < z) = true := decide_eq_true hp
          by_cases c : (x + z) * (x + z) ≤ a * 65536
          · rw [if_pos c] at HS'
            have HS := Lib.hid HS'
            clear HS'
            go_wp2
            go_round
            case rel => exact ⟨k, x + z, by omega, congrArg (Value.int .i64) HB.out, rfl, by omega, c, HS⟩
            case measure => simp [intOf]; omega
          · rw [if_neg c] at HS'
            have HS := Lib.hid HS'
            clear HS'
            go_wp2
            go_round
            case rel => exact ⟨k, x, by omega, congrArg (Value.int .i64) HB.out, rfl, by omega, hxx, HS⟩
            case measure => simp [intOf]; omega
  · have hf : fits a = false := by simpa using hf
    have H := Lib.hid (show sqrt a = (0, 11) by simp [sqrt, hf])
    go_enter Try.func56, Try.ntmps56
    go_wp2_with (go_at_call 37; ((with_reducible refine (fits_calls _ _).mono ?_); rintro e w' ⟨rfl, rfl⟩))
    go_ret2
    exact ⟨by rw [H.out]; rfl, rfl⟩

end Go.Proofs.Yteddlahklilncaa.Fix
