/- What turns by degrees, in package mat and in its reference. The package's table lies as the program's text has it. -/
import Derived.Test.YtakickodehebmaaDoorTurn
import Derived.Test.YtakickodehebmaaDoorRfix2
namespace Go.Proofs.YtakickodehebmaaDoor.Turn
open Go.ChangeShapes Go.WideShapes Go.ChangeAt Go.RowKit
open Go.Proofs.YtakickodehebmaaDoor.FixM (fits)
open Go.Proofs.YtakickodehebmaaDoor.MatM (none6)
open Go.Proofs.YtakickodehebmaaDoor.TurnM
set_option linter.unusedVariables false
set_option linter.unusedSimpArgs false

theorem rsine1_calls (d : Nat) (hd : d ≤ 180) (w : World) :
    Calls Tryd.prog 77 #[.int .i64 (d : Int)] w fun e w' => e = .returned (.int .i64 (s1 d)) ∧ Up w w' := by
  have e1 : (d : Int).tmod 360 = d := by rw [Int.tmod_eq_emod_of_nonneg (by omega)]; omega
  have e2 : (d : Int) % 360 = d := by omega
  have d0 : decide ((d : Int) < 0) = false := decide_eq_false (by omega)
  have d1 : decide (180 < (d : Int)) = false := decide_eq_false (by omega)
  by_cases h : 90 < d
  · have d2 : decide (90 < (d : Int)) = true := decide_eq_true (by omega)
    have H := Lib.hid (show s1 d = sineAt (180 - d) by unfold s1; rw [if_pos h])
    obtain ⟨k, hk⟩ : ∃ k, 180 - d = k := ⟨_, rfl⟩
    have e3 : (180 : Int) - d = k := by omega
    rw [hk] at H
    have hk1 : k < 91 := by omega
    clear hk
    go_enter Tryd.func77, Tryd.ntmps77
    go_wp2_with (go_at_call 86; ((with_reducible refine (rtab_calls k hk1 _).mono ?_); rintro e w' ⟨rfl, hu⟩))
    go_ret
    exact ⟨by rw [H.out]; rfl, by (repeat' (first | (with_reducible exact Up.refl _) | (with_reducible assumption) | (with_reducible refine Up.alloc ?_ _) | (with_reducible refine Up.drew ?_) | (with_reducible refine Up.drewN ?_ _) | (with_reducible refine Up.setCell ?_ ?_ _) | (with_reducible refine Up.call ?_ (by with_reducible assumption)) | go_size))⟩
  · have d2 : decide (90 < (d : Int)) = false := decide_eq_false (by omega)
    have H := Lib.hid (show s1 d = sineAt d by unfold s1; rw [if_neg h])
    have hk1 : d < 91 := by omega
    go_enter Tryd.func77, Tryd.ntmps77
    go_wp2_with (go_at_call 86; ((with_reducible refine (rtab_calls d hk1 _).mono ?_); rintro e w' ⟨rfl, hu⟩))
    go_ret
    exact ⟨by rw [H.out]; rfl, by (repeat' (first | (with_reducible exact Up.refl _) | (with_reducible assumption) | (with_reducible refine Up.alloc ?_ _) | (with_reducible refine Up.drew ?_) | (with_reducible refine Up.drewN ?_ _) | (with_reducible refine Up.setCell ?_ ?_ _) | (with_reducible refine Up.call ?_ (by with_reducible assumption)) | go_size))⟩

/-- what Go's remainder is -/
theorem tmod360 (d : Int) : d.tmod 360 = if d.tmod 360 < 0 then d % 360 - 360 else d % 360 := by
  obtain ⟨h1, h2, h3, h4, h5, -, -⟩ := FixM.tdm d 360 (by decide)
  split <;> omega

theorem rsine_calls (d : Int) (h0 : -1000000 ≤ d) (h1 : d ≤ 1000000) (w : World) :
    Calls Tryd.prog 77 #[.int .i64 d] w fun e w' => e = .returned (.int .i64 (sinI d)) ∧ Up w w' := by
  obtain ⟨r, hr⟩ : ∃ r : Nat, d % 360 = (r : Int) := ⟨(d % 360).toNat, by omega⟩
  have hr1 : r < 360 := by omega
  have er : (d % 360).toNat = r := by omega
  obtain ⟨q, hq⟩ : ∃ q, d.tmod 360 = q := ⟨_, rfl⟩
  have ht := tmod360 d
  rw [hq, hr] at ht
  have hq2 : (q < 0 ∧ q + 360 = r ∧ decide (q < 0) = true) ∨ (q = r ∧ decide ((r : Int) < 0) = false) := by
    by_cases c : q < 0
    · rw [if_pos c] at ht; exact Or.inl ⟨c, by omega, decide_eq_true c⟩
    · rw [if_neg c] at ht; exact Or.inr ⟨ht, decide_eq_false (by omega)⟩
  clear ht
  have hq0 : -360 < q := by
    obtain ⟨-, h2, -⟩ := FixM.tdm d 360 (by decide)
    omega
  by_cases h : 180 < r
  · have d1 : decide (180 < (r : Int)) = true := decide_eq_true (by omega)
    obtain ⟨k, hk⟩ : ∃ k, r - 180 = k := ⟨_, rfl⟩
    have e3 : (r : Int) - 180 = k := by omega
    have H := Lib.hid (show sinI d = -(s1 k) by unfold sinI; rw [if_pos (by omega), er, hk])
    have hb := s1_bound (r := k) (by omega)
    have hk1 : k ≤ 180 := by omega
    have hr2 := hr
    clear hr hk er
    rcases hq2 with ⟨c1, c2, c3⟩ | ⟨rfl, c1⟩
    · go_enter Tryd.func77, Tryd.ntmps77
      go_wp2_with (go_at_call 77; ((with_reducible refine (rsine1_calls k hk1 _).mono ?_); rintro e w' ⟨rfl, hu⟩))
      go_ret
      exact ⟨by rw [H.out]; rfl, by (repeat' (first | (with_reducible exact Up.refl _) | (with_reducible assumption) | (with_reducible refine Up.alloc ?_ _) | (with_reducible refine Up.drew ?_) | (with_reducible refine Up.drewN ?_ _) | (with_reducible refine Up.setCell ?_ ?_ _) | (with_reducible refine Up.call ?_ (by with_reducible assumption)) | go_size))⟩
    · go_enter Tryd.func77, Tryd.ntmps77
      go_wp2_with (go_at_call 77; ((with_reducible refine (rsine1_calls k hk1 _).mono ?_); rintro e w' ⟨rfl, hu⟩))
      go_ret
      exact ⟨by rw [H.out]; rfl, by (repeat' (first | (with_reducible exact Up.refl _) | (with_reducible assumption) | (with_reducible refine Up.alloc ?_ _) | (with_reducible refine Up.drew ?_) | (with_reducible refine Up.drewN ?_ _) | (with_reducible refine Up.setCell ?_ ?_ _) | (with_reducible refine Up.call ?_ (by with_reducible assumption)) | go_size))⟩
  · have H := Lib.hid (show sinI d = s1 r by unfold sinI; rw [if_neg (by omega), er])
    have d1 : decide (180 < (r : Int)) = false := decide_eq_false (by omega)
    have hr2 := hr
    clear hr er
    by_cases h : 90 < r
    · have d2 : decide (90 < (r : Int)) = true := decide_eq_true (by omega)
      have H2 := Lib.hid (show s1 r = sineAt (180 - r) by unfold s1; rw [if_pos h])
      obtain ⟨k, hk⟩ : ∃ k, 180 - r = k := ⟨_, rfl⟩
      have e3 : (180 : Int) - r = k := by omega
      rw [hk] at H2
      have hk1 : k < 91 := by omega
      clear hk
      rcases hq2 with ⟨c1, c2, c3⟩ | ⟨rfl, c1⟩
      · go_enter Tryd.func77, Tryd.ntmps77
        go_wp2_with (go_at_call 86; ((with_reducible refine (rtab_calls k hk1 _).mono ?_); rintro e w' ⟨rfl, hu⟩))
        go_ret
        exact ⟨by rw [H.out, H2.out]; rfl, by (repeat' (first | (with_reducible exact Up.refl _) | (with_reducible assumption) | (with_reducible refine Up.alloc ?_ _) | (with_reducible refine Up.drew ?_) | (with_reducible refine Up.drewN ?_ _) | (with_reducible refine Up.setCell ?_ ?_ _) | (with_reducible refine Up.call ?_ (by with_reducible assumption)) | go_size))⟩
      · go_enter Tryd.func77, Tryd.ntmps77
        go_wp2_with (go_at_call 86; ((with_reducible refine (rtab_calls k hk1 _).mono ?_); rintro e w' ⟨rfl, hu⟩))
        go_ret
        exact ⟨by rw [H.out, H2.out]; rfl, by (repeat' (first | (with_reducible exact Up.refl _) | (with_reducible assumption) | (with_reducible refine Up.alloc ?_ _) | (with_reducible refine Up.drew ?_) | (with_reducible refine Up.drewN ?_ _) | (with_reducible refine Up.setCell ?_ ?_ _) | (with_reducible refine Up.call ?_ (by with_reducible assumption)) | go_size))⟩
    · have d2 : decide (90 < (r : Int)) = false := decide_eq_false (by omega)
      have H2 := Lib.hid (show s1 r = sineAt r by unfold s1; rw [if_neg h])
      have hk1 : r < 91 := by omega
      rcases hq2 with ⟨c1, c2, c3⟩ | ⟨rfl, c1⟩
      · go_enter Tryd.func77, Tryd.ntmps77
        go_wp2_with (go_at_call 86; ((with_reducible refine (rtab_calls r hk1 _).mono ?_); rintro e w' ⟨rfl, hu⟩))
        go_ret
        exact ⟨by rw [H.out, H2.out]; rfl, by (repeat' (first | (with_reducible exact Up.refl _) | (with_reducible assumption) | (with_reducible refine Up.alloc ?_ _) | (with_reducible refine Up.drew ?_) | (with_reducible refine Up.drewN ?_ _) | (with_reducible refine Up.setCell ?_ ?_ _) | (with_reducible refine Up.call ?_ (by with_reducible assumption)) | go_size))⟩
      · go_enter Tryd.func77, Tryd.ntmps77
        go_wp2_with (go_at_call 86; ((with_reducible refine (rtab_calls r hk1 _).mono ?_); rintro e w' ⟨rfl, hu⟩))
        go_ret
        exact ⟨by rw [H.out, H2.out]; rfl, by (repeat' (first | (with_reducible exact Up.refl _) | (with_reducible assumption) | (with_reducible refine Up.alloc ?_ _) | (with_reducible refine Up.drew ?_) | (with_reducible refine Up.drewN ?_ _) | (with_reducible refine Up.setCell ?_ ?_ _) | (with_reducible refine Up.call ?_ (by with_reducible assumption)) | go_size))⟩

end Go.Proofs.YtakickodehebmaaDoor.Turn
