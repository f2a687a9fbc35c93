/- What the functions of package fix on whole numbers and roots return, each over all numbers. No condition. -/
import Derived.Test.YtakickodehebmaaDoorFix
import Derived.Test.YtakickodehebmaaDoorRfix
import Derived.Test.YtakickodehebmaaDoorBits
namespace Go.Proofs.YtakickodehebmaaDoor.Fix
open Go.ChangeShapes Go.WideShapes Go.ChangeAt Go.RowKit
open Go.Proofs.YtakickodehebmaaDoor.FixM (fits within rnd rndp add sub mul div floor ceiling round truncate fromInt sqrt sqF root near Root)

theorem floor_calls (a : Int) (w : World) :
    Calls Tryd.prog 70 #[.int .i64 a] w fun e w' => e = .returned (.int .i64 (floor a)) ∧ w = w' := by
  by_cases hf : fits a = true
  · obtain ⟨h1, h2⟩ := FixM.fits_iff.1 hf
    have H := Lib.hid (show floor a = a - a % 65536 by simp [floor, hf])
    have hb := Bits.i64_andNot16 a (by omega) (by omega)
    go_enter Tryd.func70, Tryd.ntmps70
    go_wp2_with (go_at_call 62; ((with_reducible refine (fits_calls _ _).mono ?_); rintro e w' ⟨rfl, rfl⟩))
    go_ret
    exact ⟨by rw [H.out]; rfl, rfl⟩
  · have hf : fits a = false := by simpa using hf
    have H := Lib.hid (show floor a = 0 by simp [floor, hf])
    go_enter Tryd.func70, Tryd.ntmps70
    go_wp2_with (go_at_call 62; ((with_reducible refine (fits_calls _ _).mono ?_); rintro e w' ⟨rfl, rfl⟩))
    go_ret
    exact ⟨by rw [H.out]; rfl, rfl⟩

theorem ceiling_calls (a : Int) (w : World) :
    Calls Tryd.prog 68 #[.int .i64 a] w fun e w' => e = .returned (.tuple #[.int .i64 (ceiling a).1, .int .i64 (ceiling a).2]) ∧ w = w' := by
  by_cases hf : fits a = true
  · obtain ⟨h1, h2⟩ := FixM.fits_iff.1 hf
    have H := Lib.hid (show ceiling a = within (a + 65535 - (a + 65535) % 65536) by simp [ceiling, hf])
    have hb := Bits.i64_andNot16 (a + 65535) (by omega) (by omega)
    have h7 : a + 65536 - 1 = a + 65535 := by omega
    go_enter Tryd.func68, Tryd.ntmps68
    go_wp2_with (first | (go_at_call 62; ((with_reducible refine (fits_calls _ _).mono ?_); rintro e w' ⟨rfl, rfl⟩)) | (go_at_call 80; ((with_reducible refine (within_calls _ _).mono ?_); rintro e w' ⟨rfl, rfl⟩)))
    go_ret2
    exact ⟨by rw [H.out]; rfl, rfl⟩
  · have hf : fits a = false := by simpa using hf
    have H := Lib.hid (show ceiling a = (0, 11) by simp [ceiling, hf])
    go_enter Tryd.func68, Tryd.ntmps68
    go_wp2_with (go_at_call 62; ((with_reducible refine (fits_calls _ _).mono ?_); rintro e w' ⟨rfl, rfl⟩))
    go_ret2
    exact ⟨by rw [H.out]; rfl, rfl⟩

theorem round_calls (a : Int) (w : World) :
    Calls Tryd.prog 69 #[.int .i64 a] w fun e w' => e = .returned (.tuple #[.int .i64 (round a).1, .int .i64 (round a).2]) ∧ w = w' := by
  by_cases hf : fits a = true
  · obtain ⟨h1, h2⟩ := FixM.fits_iff.1 hf
    have H := Lib.hid (show round a = within (a + 32768 - (a + 32768) % 65536) by simp [round, hf])
    have hb := Bits.i64_andNot16 (a + 32768) (by omega) (by omega)
    
    go_enter Tryd.func69, Tryd.ntmps69
    go_wp2_with (first | (go_at_call 62; ((with_reducible refine (fits_calls _ _).mono ?_); rintro e w' ⟨rfl, rfl⟩)) | (go_at_call 80; ((with_reducible refine (within_calls _ _).mono ?_); rintro e w' ⟨rfl, rfl⟩)))
    go_ret2
    exact ⟨by rw [H.out]; rfl, rfl⟩
  · have hf : fits a = false := by simpa using hf
    have H := Lib.hid (show round a = (0, 11) by simp [round, hf])
    go_enter Tryd.func69, Tryd.ntmps69
    go_wp2_with (go_at_call 62; ((with_reducible refine (fits_calls _ _).mono ?_); rintro e w' ⟨rfl, rfl⟩))
    go_ret2
    exact ⟨by rw [H.out]; rfl, rfl⟩

theorem truncate_calls (a : Int) (w : World) :
    Calls Tryd.prog 71 #[.int .i64 a] w fun e w' => e = .returned (.int .i64 (truncate a)) ∧ w = w' := by
  by_cases hf : fits a = true
  · obtain ⟨h1, h2⟩ := FixM.fits_iff.1 hf
    by_cases hs : a < 0
    · have H := Lib.hid (show truncate a = -(-a - -a % 65536) by simp [truncate, hf, hs])
      have hb := Bits.i64_andNot16 (-a) (by omega) (by omega)
      go_enter Tryd.func71, Tryd.ntmps71
      go_wp2_with (go_at_call 62; ((with_reducible refine (fits_calls _ _).mono ?_); rintro e w' ⟨rfl, rfl⟩))
      go_ret
      exact ⟨by rw [H.out]; exact reti (by omega), rfl⟩
    · have H := Lib.hid (show truncate a = floor a by simp [truncate, floor, hf, hs])
      go_enter Tryd.func71, Tryd.ntmps71
      go_wp2_with (first | (go_at_call 62; ((with_reducible refine (fits_calls _ _).mono ?_); rintro e w' ⟨rfl, rfl⟩)) | (go_at_call 70; ((with_reducible refine (floor_calls _ _).mono ?_); rintro e w' ⟨rfl, rfl⟩)))
      go_ret
      exact ⟨by rw [H.out]; rfl, rfl⟩
  · have hf : fits a = false := by simpa using hf
    have H := Lib.hid (show truncate a = 0 by simp [truncate, hf])
    go_enter Tryd.func71, Tryd.ntmps71
    go_wp2_with (go_at_call 62; ((with_reducible refine (fits_calls _ _).mono ?_); rintro e w' ⟨rfl, rfl⟩))
    go_ret
    exact ⟨by rw [H.out]; rfl, rfl⟩

theorem fromInt_calls (a : Int) (w : World) :
    Calls Tryd.prog 78 #[.int .i64 a] w fun e w' => e = .returned (.tuple #[.int .i64 (fromInt a).1, .int .i64 (fromInt a).2]) ∧ w = w' := by
  by_cases h1 : a < -32768
  · have H := Lib.hid (show fromInt a = (0, 11) by simp [fromInt, h1])
    go_enter Tryd.func78, Tryd.ntmps78
    go_wp2
    go_ret2
    exact ⟨by rw [H.out]; rfl, rfl⟩
  · by_cases h2 : 32767 < a
    · have H := Lib.hid (show fromInt a = (0, 11) by simp [fromInt, h2])
      have d1 : decide (a < -32768) = false := decide_eq_false h1
      go_enter Tryd.func78, Tryd.ntmps78
      go_wp2
      go_ret2
      exact ⟨by rw [H.out]; rfl, rfl⟩
    · have H := Lib.hid (show fromInt a = (a * 65536, 0) by simp [fromInt, h1, h2])
      have d1 : decide (a < -32768) = false := decide_eq_false h1
      have d2 : decide (32767 < a) = false := decide_eq_false h2
      go_enter Tryd.func78, Tryd.ntmps78
      go_wp2
      go_ret2
      exact ⟨by rw [H.out]; rfl, rfl⟩

/-- the bit that a round of 'Sqrt' tries, k rounds ahead of the end -/
def bitAt : Nat → Int
  | 0 => 0
  | k + 1 => 2 ^ k
theorem bitAt_half (k : Nat) : (2 : Int) ^ k / 2 = bitAt k := by
  cases k with
  | zero => decide
  | succ k => simp only [bitAt, Int.pow_succ]; omega

theorem sqrt_calls (a : Int) (w : World) :
    Calls Tryd.prog 66 #[.int .i64 a] w fun e w' => e = .returned (.tuple #[.int .i64 (sqrt a).1, .int .i64 (sqrt a).2]) ∧ w = w' := by
  by_cases hf : fits a = true
  · by_cases hs : a < 0
    · have H := Lib.hid (show sqrt a = (0, 11) by simp [sqrt, hf, Int.not_le.2 hs])
      go_enter Tryd.func66, Tryd.ntmps66
      go_wp2_with (go_at_call 62; ((with_reducible refine (fits_calls _ _).mono ?_); rintro e w' ⟨rfl, rfl⟩))
      go_ret2
      exact ⟨by rw [H.out]; rfl, rfl⟩
    · obtain ⟨h1, h2⟩ := FixM.fits_iff.1 hf
      have hs' : 0 ≤ a := by omega
      have H := Lib.hid (show sqrt a = (near (a * 65536) (root (a * 65536)), 0) by simp [sqrt, hf, hs'])
      have HR := Lib.hid (FixM.root_root (n := a * 65536) (by omega) (by omega))
      have d1 : decide (a < 0) = false := decide_eq_false hs
      go_enter Tryd.func66, Tryd.ntmps66
      go_wp2_with (go_at_call 62; ((with_reducible refine (fits_calls _ _).mono ?_); rintro e w' ⟨rfl, rfl⟩))
      clear d1 hs
      go_loop [5, 6] (fun r z => ∃ (k : Nat) (x : Int), k ≤ 25 ∧ z = .int .i64 (bitAt k) ∧ r = .int .i64 x ∧ 0 ≤ x ∧ x * x ≤ a * 65536 ∧ Hid (sqF k (a * 65536) x = root (a * 65536))) (fun _ z => (intOf z).toNat)
      case atStart => exact ⟨25, 0, by decide, rfl, rfl, by decide, by omega, Lib.hid rfl⟩
      case round =>
        obtain ⟨k, x, hk, rfl, rfl, hx0, hxx, HS⟩ := hrel
        have hx1 : x < 16777216 := by
          by_cases c : x < 16777216
          · exact c
          · exfalso
            have : (16777216 : Int) * 16777216 ≤ x * x := by
              by_cases e : (16777216 : Int) = x
              · rw [← e]; exact Int.le_refl _
              · exact Int.le_of_lt (FixM.sq_lt (by decide) (by omega))
            omega
        cases k with
        | zero =>
          have hxr : x = root (a * 65536) := HS.out
          have HX := Lib.hid hxr
          clear hxr HS
          have hn : 0 ≤ x * x := Int.mul_nonneg hx0 hx0
          by_cases c : x < a * 65536 - x * x
          · have HN := Lib.hid (show near (a * 65536) (root (a * 65536)) = x + 1 by rw [← HX.out, near, if_pos c])
            rw [show bitAt 0 = 0 from rfl]
            go_wp2
            go_ret2
            exact ⟨by rw [H.out, HN.out]; rfl, rfl⟩
          · have HN := Lib.hid (show near (a * 65536) (root (a * 65536)) = x by rw [← HX.out, near, if_neg c])
            rw [show bitAt 0 = 0 from rfl]
            go_wp2
            go_ret2
            exact ⟨by rw [H.out, HN.out]; rfl, rfl⟩
        | succ k =>
          have hp := FixM.pow_pos' k
          have hp2 : (2 : Int) ^ k ≤ 16777216 := by
            have := Nat.pow_le_pow_right (n := 2) (by decide) (show k ≤ 24 by omega)
            have : ((2 ^ k : Nat) : Int) ≤ ((2 ^ 24 : Nat) : Int) := by exact_mod_cast this
            simpa using this
          have HB := Lib.hid (bitAt_half k)
          have HQ := Lib.hid (show sqF (k + 1) (a * 65536) x = _ from rfl)
          have HS' := HS.out
          simp only [sqF] at HS'
          rw [show bitAt (k + 1) = 2 ^ k from rfl]
          generalize hz : (2 : Int) ^ k = z at *
          have HZ := Lib.hid hz
          clear hz HQ HS
          have hn : 0 ≤ (x + z) * (x + z) := Int.mul_nonneg (by omega) (by omega)
          have hn2 : (x + z) * (x + z) ≤ 1125899906842624 := by
            have := FixM.sq_lt (a := x + z) (b := 33554432) (by omega) (by omega)
            omega
          have hzp : decide (0 < z) = true := decide_eq_true hp
          by_cases c : (x + z) * (x + z) ≤ a * 65536
          · rw [if_pos c] at HS'
            have HS := Lib.hid HS'
            clear HS'
            go_wp2
            go_round
            case rel => exact ⟨k, x + z, by omega, congrArg (Value.int .i64) HB.out, rfl, by omega, c, HS⟩
            case measure => simp [intOf]; omega
          · rw [if_neg c] at HS'
            have HS := Lib.hid HS'
            clear HS'
            go_wp2
            go_round
            case rel => exact ⟨k, x, by omega, congrArg (Value.int .i64) HB.out, rfl, by omega, hxx, HS⟩
            case measure => simp [intOf]; omega
  · have hf : fits a = false := by simpa using hf
    have H := Lib.hid (show sqrt a = (0, 11) by simp [sqrt, hf])
    go_enter Tryd.func66, Tryd.ntmps66
    go_wp2_with (go_at_call 62; ((with_reducible refine (fits_calls _ _).mono ?_); rintro e w' ⟨rfl, rfl⟩))
    go_ret2
    exact ⟨by rw [H.out]; rfl, rfl⟩

end Go.Proofs.YtakickodehebmaaDoor.Fix
