/- What the reference's functions on whole numbers and roots return, each over all numbers. No condition. -/
import Derived.Test.YtakickodehebmaaDoorFix
import Derived.Test.YtakickodehebmaaDoorRfix
import Derived.Test.YtakickodehebmaaDoorBits
namespace Go.Proofs.YtakickodehebmaaDoor.Rfix
open Go.ChangeShapes Go.WideShapes Go.ChangeAt Go.RowKit
open Go.Proofs.YtakickodehebmaaDoor.FixM (fits within rnd rndp add sub mul div floor ceiling round truncate fromInt sqrt sqF root near Root)

/-- the greatest multiple that is not above -/
theorem below_calls (a : Int) (w : World) (h1 : -2147483648 ≤ a) (h2 : a ≤ 2147483647) :
    Calls Tryd.prog 76 #[.int .i64 a] w fun e w' => e = .returned (.int .i64 (a - a % 65536)) ∧ w = w' := by
  have e1 := Int.mul_tdiv_add_tmod a 65536
  by_cases hs : 0 ≤ a
  · have d : decide (a % 65536 < 0) = false := decide_eq_false (by omega)
    go_enter Tryd.func76, Tryd.ntmps76
    go_wp2
    go_ret
    exact ⟨rfl, rfl⟩
  · obtain ⟨-, k1, k2, -, k3, -⟩ := FixM.tdm a 65536 (by decide)
    have k4 := k3 (by omega)
    have em : a.tmod 65536 = if a % 65536 = 0 then 0 else a % 65536 - 65536 := by omega
    have HM := Lib.hid em
    clear e1 em k3
    by_cases hz : a.tmod 65536 < 0
    · have d : decide (a.tmod 65536 < 0) = true := decide_eq_true hz
      go_enter Tryd.func76, Tryd.ntmps76
      go_wp2
      go_ret
      exact ⟨reti (by have := HM.out; split at this <;> omega), rfl⟩
    · have d : decide (a.tmod 65536 < 0) = false := decide_eq_false hz
      go_enter Tryd.func76, Tryd.ntmps76
      go_wp2
      go_ret
      exact ⟨reti (by have := HM.out; split at this <;> omega), rfl⟩

theorem floor_calls (a : Int) (w : World) :
    Calls Tryd.prog 56 #[.int .i64 a] w fun e w' => e = .returned (.int .i64 (floor a)) ∧ w = w' := by
  by_cases hf : fits a = true
  · obtain ⟨h1, h2⟩ := FixM.fits_iff.1 hf
    have H := Lib.hid (show floor a = a - a % 65536 by simp [floor, hf])
    go_enter Tryd.func56, Tryd.ntmps56
    go_wp2_with (first | (go_at_call 37; ((with_reducible refine (fits_calls _ _).mono ?_); rintro e w' ⟨rfl, rfl⟩)) | (go_at_call 76; ((with_reducible refine (below_calls _ _ (by omega) (by omega)).mono ?_); rintro e w' ⟨rfl, rfl⟩)))
    go_ret
    exact ⟨by rw [H.out]; rfl, rfl⟩
  · have hf : fits a = false := by simpa using hf
    have H := Lib.hid (show floor a = 0 by simp [floor, hf])
    go_enter Tryd.func56, Tryd.ntmps56
    go_wp2_with (go_at_call 37; ((with_reducible refine (fits_calls _ _).mono ?_); rintro e w' ⟨rfl, rfl⟩))
    go_ret
    exact ⟨by rw [H.out]; rfl, rfl⟩

theorem ceiling_calls (a : Int) (w : World) :
    Calls Tryd.prog 53 #[.int .i64 a] w fun e w' => e = .returned (.tuple #[.int .i64 (ceiling a).1, .int .i64 (ceiling a).2]) ∧ w = w' := by
  by_cases hf : fits a = true
  · obtain ⟨h1, h2⟩ := FixM.fits_iff.1 hf
    by_cases hz : a % 65536 = 0
    · have H := Lib.hid (show ceiling a = (a, 0) by
        have e : a + 65535 - (a + 65535) % 65536 = a := by omega
        simp [ceiling, hf, within, e])
      have d : (a - a % 65536 == a) = true := by rw [beq_iff_eq]; omega
      have HZ := Lib.hid hz
      clear hz
      go_enter Tryd.func53, Tryd.ntmps53
      go_wp2_with (first | (go_at_call 37; ((with_reducible refine (fits_calls _ _).mono ?_); rintro e w' ⟨rfl, rfl⟩)) | (go_at_call 76; ((with_reducible refine (below_calls _ _ (by omega) (by omega)).mono ?_); rintro e w' ⟨rfl, rfl⟩)))
      go_ret2
      exact ⟨by rw [H.out]; rfl, rfl⟩
    · have H := Lib.hid (show ceiling a = within (a - a % 65536 + 65536) by
        have e : a + 65535 - (a + 65535) % 65536 = a - a % 65536 + 65536 := by omega
        simp [ceiling, hf, e])
      have d : (a - a % 65536 == a) = false := by rw [beq_eq_false_iff_ne]; omega
      have HZ := Lib.hid hz
      clear hz
      go_enter Tryd.func53, Tryd.ntmps53
      go_wp2_with (first | (go_at_call 37; ((with_reducible refine (fits_calls _ _).mono ?_); rintro e w' ⟨rfl, rfl⟩)) | (go_at_call 76; ((with_reducible refine (below_calls _ _ (by omega) (by omega)).mono ?_); rintro e w' ⟨rfl, rfl⟩)) | (go_at_call 59; ((with_reducible refine (keep_calls _ _).mono ?_); rintro e w' ⟨rfl, rfl⟩)))
      go_ret2
      exact ⟨by rw [H.out]; rfl, rfl⟩
  · have hf : fits a = false := by simpa using hf
    have H := Lib.hid (show ceiling a = (0, 11) by simp [ceiling, hf])
    go_enter Tryd.func53, Tryd.ntmps53
    go_wp2_with (go_at_call 37; ((with_reducible refine (fits_calls _ _).mono ?_); rintro e w' ⟨rfl, rfl⟩))
    go_ret2
    exact ⟨by rw [H.out]; rfl, rfl⟩

theorem round_calls (a : Int) (w : World) :
    Calls Tryd.prog 54 #[.int .i64 a] w fun e w' => e = .returned (.tuple #[.int .i64 (round a).1, .int .i64 (round a).2]) ∧ w = w' := by
  by_cases hf : fits a = true
  · obtain ⟨h1, h2⟩ := FixM.fits_iff.1 hf
    by_cases hz : 32768 ≤ a % 65536
    · have H := Lib.hid (show round a = within (a - a % 65536 + 65536) by
        have e : a + 32768 - (a + 32768) % 65536 = a - a % 65536 + 65536 := by omega
        simp [round, hf, e])
      have d : 32768 ≤ a - (a - a % 65536) := by omega
      go_enter Tryd.func54, Tryd.ntmps54
      go_wp2_with (first | (go_at_call 37; ((with_reducible refine (fits_calls _ _).mono ?_); rintro e w' ⟨rfl, rfl⟩)) | (go_at_call 76; ((with_reducible refine (below_calls _ _ (by omega) (by omega)).mono ?_); rintro e w' ⟨rfl, rfl⟩)) | (go_at_call 59; ((with_reducible refine (keep_calls _ _).mono ?_); rintro e w' ⟨rfl, rfl⟩)))
      go_ret2
      exact ⟨by rw [H.out]; rfl, rfl⟩
    · have H := Lib.hid (show round a = (a - a % 65536, 0) by
        have e : a + 32768 - (a + 32768) % 65536 = a - a % 65536 := by omega
        have e2 : fits (a - a % 65536) = true := FixM.fits_true (by omega) (by omega)
        simp [round, hf, within, e, e2])
      have d : ¬ 32768 ≤ a - (a - a % 65536) := by omega
      go_enter Tryd.func54, Tryd.ntmps54
      go_wp2_with (first | (go_at_call 37; ((with_reducible refine (fits_calls _ _).mono ?_); rintro e w' ⟨rfl, rfl⟩)) | (go_at_call 76; ((with_reducible refine (below_calls _ _ (by omega) (by omega)).mono ?_); rintro e w' ⟨rfl, rfl⟩)) | (go_at_call 59; ((with_reducible refine (keep_calls _ _).mono ?_); rintro e w' ⟨rfl, rfl⟩)))
      go_ret2
      exact ⟨by rw [H.out]; rfl, rfl⟩
  · have hf : fits a = false := by simpa using hf
    have H := Lib.hid (show round a = (0, 11) by simp [round, hf])
    go_enter Tryd.func54, Tryd.ntmps54
    go_wp2_with (go_at_call 37; ((with_reducible refine (fits_calls _ _).mono ?_); rintro e w' ⟨rfl, rfl⟩))
    go_ret2
    exact ⟨by rw [H.out]; rfl, rfl⟩

theorem truncate_calls (a : Int) (w : World) :
    Calls Tryd.prog 57 #[.int .i64 a] w fun e w' => e = .returned (.int .i64 (truncate a)) ∧ w = w' := by
  by_cases hf : fits a = true
  · obtain ⟨h1, h2⟩ := FixM.fits_iff.1 hf
    by_cases hs : a < 0
    · have H := Lib.hid (show truncate a = a.tdiv 65536 * 65536 by
        have : truncate a = -(-a - -a % 65536) := by simp [truncate, hf, hs]
        rw [this]
        have e : -a / 65536 = (-a).tdiv 65536 := (Int.tdiv_eq_ediv_of_nonneg (by omega)).symm
        rw [Int.neg_tdiv] at e
        omega)
      obtain ⟨-, -, -, -, -, -, k4⟩ := FixM.tdm a 65536 (by decide)
      have k5 := (FixM.tdiv_le a 65536 (by decide)).2 (by omega)
      have k6 := k4 (by omega)
      have k7 : -140737488355328 ≤ a.tdiv 65536 * 65536 := by omega
      clear k4
      go_enter Tryd.func57, Tryd.ntmps57
      go_wp2_with (go_at_call 37; ((with_reducible refine (fits_calls _ _).mono ?_); rintro e w' ⟨rfl, rfl⟩))
      go_ret
      exact ⟨by rw [H.out]; rfl, rfl⟩
    · have H := Lib.hid (show truncate a = a / 65536 * 65536 by
        have : truncate a = a - a % 65536 := by simp [truncate, hf, hs]
        omega)
      go_enter Tryd.func57, Tryd.ntmps57
      go_wp2_with (go_at_call 37; ((with_reducible refine (fits_calls _ _).mono ?_); rintro e w' ⟨rfl, rfl⟩))
      go_ret
      exact ⟨by rw [H.out]; rfl, rfl⟩
  · have hf : fits a = false := by simpa using hf
    have H := Lib.hid (show truncate a = 0 by simp [truncate, hf])
    go_enter Tryd.func57, Tryd.ntmps57
    go_wp2_with (go_at_call 37; ((with_reducible refine (fits_calls _ _).mono ?_); rintro e w' ⟨rfl, rfl⟩))
    go_ret
    exact ⟨by rw [H.out]; rfl, rfl⟩

theorem fromInt_calls (a : Int) (w : World) :
    Calls Tryd.prog 58 #[.int .i64 a] w fun e w' => e = .returned (.tuple #[.int .i64 (fromInt a).1, .int .i64 (fromInt a).2]) ∧ w = w' := by
  by_cases h1 : a < -32768
  · have H := Lib.hid (show fromInt a = (0, 11) by simp [fromInt, h1])
    go_enter Tryd.func58, Tryd.ntmps58
    go_wp2
    go_ret2
    exact ⟨by rw [H.out]; rfl, rfl⟩
  · by_cases h2 : 32767 < a
    · have H := Lib.hid (show fromInt a = (0, 11) by simp [fromInt, h2])
      have d1 : decide (a < -32768) = false := decide_eq_false h1
      go_enter Tryd.func58, Tryd.ntmps58
      go_wp2
      go_ret2
      exact ⟨by rw [H.out]; rfl, rfl⟩
    · have H := Lib.hid (show fromInt a = (a * 65536, 0) by simp [fromInt, h1, h2])
      have d1 : decide (a < -32768) = false := decide_eq_false h1
      have d2 : decide (32767 < a) = false := decide_eq_false h2
      go_enter Tryd.func58, Tryd.ntmps58
      go_wp2
      go_ret2
      exact ⟨by rw [H.out]; rfl, rfl⟩

/-- the reference's two ways round the last unit -/
theorem near_ref (n r : Int) : near n r = if (r + 1) * (r + 1) - n < n - r * r then r + 1 else r := by
  have e : (r + 1) * (r + 1) = r * r + 2 * r + 1 := by
    rw [Int.add_mul, Int.mul_add]; omega
  rw [e, near]
  split <;> split <;> omega

theorem sqrt_calls (a : Int) (w : World) :
    Calls Tryd.prog 51 #[.int .i64 a] w fun e w' => e = .returned (.tuple #[.int .i64 (sqrt a).1, .int .i64 (sqrt a).2]) ∧ w = w' := by
  by_cases hf : fits a = true
  · by_cases hs : a < 0
    · have H := Lib.hid (show sqrt a = (0, 11) by simp [sqrt, hf, Int.not_le.2 hs])
      go_enter Tryd.func51, Tryd.ntmps51
      go_wp2_with (go_at_call 37; ((with_reducible refine (fits_calls _ _).mono ?_); rintro e w' ⟨rfl, rfl⟩))
      go_ret2
      exact ⟨by rw [H.out]; rfl, rfl⟩
    · obtain ⟨h1, h2⟩ := FixM.fits_iff.1 hf
      have hs' : 0 ≤ a := by omega
      have H := Lib.hid (show sqrt a = (near (a * 65536) (root (a * 65536)), 0) by simp [sqrt, hf, hs'])
      have HR := Lib.hid (FixM.root_root (n := a * 65536) (by omega) (by omega))
      have d1 : decide (a < 0) = false := decide_eq_false hs
      go_enter Tryd.func51, Tryd.ntmps51
      go_wp2_with (go_at_call 37; ((with_reducible refine (fits_calls _ _).mono ?_); rintro e w' ⟨rfl, rfl⟩))
      clear d1 hs
      go_loop [5, 6] (fun l h => ∃ (x y : Int), l = .int .i64 x ∧ h = .int .i64 y ∧ 0 ≤ x ∧ x ≤ y ∧ y ≤ 12000000 ∧ x * x ≤ a * 65536 ∧ a * 65536 < (y + 1) * (y + 1)) (fun l h => (intOf h - intOf l).toNat)
      case atStart => exact ⟨0, 12000000, rfl, rfl, by decide, by decide, by decide, by omega, by omega⟩
      case round =>
        obtain ⟨x, y, rfl, rfl, hx0, hxy, hy, hx2, hy2⟩ := hrel
        by_cases hlt : x < y
        · have hm1 : x + 1 ≤ (x + y + 1) / 2 := by omega
          have hm2 : (x + y + 1) / 2 ≤ y := by omega
          have hd : decide (x < y) = true := decide_eq_true hlt
          generalize hz : (x + y + 1) / 2 = z at *
          have HZ := Lib.hid hz
          have hz3 : 0 ≤ z * z := Int.mul_nonneg (by omega) (by omega)
          have hz4 : z * z ≤ 144000000000000 := by
            by_cases c : z = 12000000
            · rw [c]; decide
            · have := FixM.sq_lt (a := z) (b := 12000000) (by omega) (by omega)
              omega
          by_cases c : z * z ≤ a * 65536
          · go_wp2
            go_round
            case rel => exact ⟨z, y, by first | rfl | exact congrArg (Value.int .i64) HZ.out, rfl, by omega, hm2, hy, c, hy2⟩
            case measure => simp [intOf]; omega
          · have e : z - 1 + 1 = z := by omega
            have E := Lib.hid e
            clear e
            go_wp2
            go_round
            case rel => exact ⟨x, z - 1, rfl, by first | rfl | exact congrArg (fun i => Value.int .i64 (i - 1)) HZ.out, hx0, by omega, by omega, hx2, by rw [E.out]; omega⟩
            case measure => simp [intOf]; omega
        · obtain rfl : x = y := by omega
          have hxr : x = root (a * 65536) := FixM.Root.uniq ⟨hx0, hx2, hy2⟩ HR.out
          have HX := Lib.hid hxr
          clear hxr
          have hn : 0 ≤ x * x := Int.mul_nonneg hx0 hx0
          have hn2 : (x + 1) * (x + 1) ≤ 144000024000001 := by
            by_cases c : x = 12000000
            · rw [c]; decide
            · have := FixM.sq_lt (a := x + 1) (b := 12000001) (by omega) (by omega)
              omega
          have hn3 : 0 ≤ (x + 1) * (x + 1) := Int.mul_nonneg (by omega) (by omega)
          have hd : decide (x < x) = false := decide_eq_false (by omega)
          by_cases c : (x + 1) * (x + 1) - a * 65536 < a * 65536 - x * x
          · have HN := Lib.hid (show near (a * 65536) (root (a * 65536)) = x + 1 by rw [← HX.out, near_ref, if_pos c])
            go_wp2
            go_ret2
            exact ⟨by rw [H.out, HN.out]; rfl, rfl⟩
          · have HN := Lib.hid (show near (a * 65536) (root (a * 65536)) = x by rw [← HX.out, near_ref, if_neg c])
            go_wp2
            go_ret2
            exact ⟨by rw [H.out, HN.out]; rfl, rfl⟩
  · have hf : fits a = false := by simpa using hf
    have H := Lib.hid (show sqrt a = (0, 11) by simp [sqrt, hf])
    go_enter Tryd.func51, Tryd.ntmps51
    go_wp2_with (go_at_call 37; ((with_reducible refine (fits_calls _ _).mono ?_); rintro e w' ⟨rfl, rfl⟩))
    go_ret2
    exact ⟨by rw [H.out]; rfl, rfl⟩

end Go.Proofs.YtakickodehebmaaDoor.Rfix
