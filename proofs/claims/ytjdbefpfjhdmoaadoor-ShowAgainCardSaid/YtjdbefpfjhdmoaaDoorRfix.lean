/- What the reference's functions on numbers return, each over all numbers: the same as those of package fix. No condition. -/
import Derived.Test.YtjdbefpfjhdmoaaDoorRows
import Derived.Test.YtjdbefpfjhdmoaaDoorFixM
import Derived.Test.YtjdbefpfjhdmoaaDoorBase
import Derived.WalkKit
import Derived.ProofKit
import Derived.OpenShut
import Derived.BigQuiet
import Derived.Deep.QuietTactic
import Derived.Lib.Hide
import Derived.Handy
namespace Go.Proofs.YtjdbefpfjhdmoaaDoor.Rfix
open Go.ChangeShapes Go.WideShapes Go.ChangeAt Go.RowKit
open Go.Proofs.YtjdbefpfjhdmoaaDoor.FixM (fits within rnd rndp add sub mul div)

theorem fits_calls (n : Int) (w : World) :
    Calls Tryd.prog 31 #[.int .i64 n] w fun e w' => e = .returned (.bool (fits n)) ∧ w = w' := by
  by_cases h1 : -2147483648 ≤ n
  · by_cases h2 : n ≤ 2147483647
    · have HH := Lib.hid (FixM.fits_true h1 h2)
      go_enter Tryd.func31, Tryd.ntmps31
      go_wp2
      go_ret
      exact ⟨retb (by rw [HH.out]), rfl⟩
    · have HH := Lib.hid (show fits n = false from FixM.fits_false.2 (by omega))
      go_enter Tryd.func31, Tryd.ntmps31
      go_wp2
      go_ret
      exact ⟨retb (by rw [HH.out]), rfl⟩
  · have HH := Lib.hid (show fits n = false from FixM.fits_false.2 (by omega))
    go_enter Tryd.func31, Tryd.ntmps31
    go_wp2
    go_ret
    exact ⟨retb (by rw [HH.out]), rfl⟩

theorem keep_calls (n : Int) (w : World) :
    Calls Tryd.prog 97 #[.int .i64 n] w fun e w' => e = .returned (.tuple #[.int .i64 (within n).1, .int .i64 (within n).2]) ∧ w = w' := by
  by_cases h : fits n = true
  · have H := Lib.hid (show within n = (n, 0) by simp [within, h])
    go_enter Tryd.func97, Tryd.ntmps97
    go_wp2_with (go_at_call 31; ((with_reducible refine (fits_calls _ _).mono ?_); rintro e w' ⟨rfl, rfl⟩))
    go_ret2
    exact ⟨by rw [H.out]; rfl, rfl⟩
  · have h : fits n = false := by simpa using h
    have H := Lib.hid (show within n = (0, 18) by simp [within, h])
    go_enter Tryd.func97, Tryd.ntmps97
    go_wp2_with (go_at_call 31; ((with_reducible refine (fits_calls _ _).mono ?_); rintro e w' ⟨rfl, rfl⟩))
    go_ret2
    exact ⟨by rw [H.out]; rfl, rfl⟩

theorem rounded_nn (a b : Int) (w : World) (hb1 : b ≤ 2147483648) (hb2 : -2147483648 ≤ b) (ha : -4611686018427387904 ≤ a) (ha2 : a ≤ 4611686018427387904) (a0 : a < 0) (b0 : b < 0) :
    Calls Tryd.prog 29 #[.int .i64 a, .int .i64 b] w fun e w' => e = .returned (.int .i64 (rnd a b)) ∧ Up w w' := by
  obtain ⟨h, k1, k2, k3, k4⟩ := FixM.ref_nn a b a0 b0
  rw [h]
  clear h
  by_cases c : -b + a.tmod b ≤ -a.tmod b
  · rw [if_pos c]
    go_enter Tryd.func29, Tryd.ntmps29
    go_wp2
    go_quiet (fail)
    go_wp2
    go_ret
    exact ⟨reti (by omega), by (repeat' (first | (with_reducible exact Up.refl _) | (with_reducible assumption) | (with_reducible refine Up.alloc ?_ _) | (with_reducible refine Up.drew ?_) | (with_reducible refine Up.drewN ?_ _) | (with_reducible refine Up.setCell ?_ ?_ _) | (with_reducible refine Up.call ?_ (by with_reducible assumption)) | go_size))⟩
  · rw [if_neg c]
    go_enter Tryd.func29, Tryd.ntmps29
    go_wp2
    go_quiet (fail)
    go_wp2
    go_ret
    exact ⟨reti (by omega), by (repeat' (first | (with_reducible exact Up.refl _) | (with_reducible assumption) | (with_reducible refine Up.alloc ?_ _) | (with_reducible refine Up.drew ?_) | (with_reducible refine Up.drewN ?_ _) | (with_reducible refine Up.setCell ?_ ?_ _) | (with_reducible refine Up.call ?_ (by with_reducible assumption)) | go_size))⟩

theorem rounded_np (a b : Int) (w : World) (hb1 : b ≤ 2147483648) (hb2 : -2147483648 ≤ b) (ha : -4611686018427387904 ≤ a) (ha2 : a ≤ 4611686018427387904) (a0 : a < 0) (b0 : 0 < b) :
    Calls Tryd.prog 29 #[.int .i64 a, .int .i64 b] w fun e w' => e = .returned (.int .i64 (rnd a b)) ∧ Up w w' := by
  have db : decide (b < 0) = false := decide_eq_false (by omega)
  obtain ⟨h, k1, k2, k3, k4⟩ := FixM.ref_np a b a0 b0
  rw [h]
  clear h
  by_cases c : b + a.tmod b ≤ -a.tmod b
  · rw [if_pos c]
    go_enter Tryd.func29, Tryd.ntmps29
    go_wp2
    go_quiet (fail)
    go_wp2
    go_ret
    exact ⟨reti (by omega), by (repeat' (first | (with_reducible exact Up.refl _) | (with_reducible assumption) | (with_reducible refine Up.alloc ?_ _) | (with_reducible refine Up.drew ?_) | (with_reducible refine Up.drewN ?_ _) | (with_reducible refine Up.setCell ?_ ?_ _) | (with_reducible refine Up.call ?_ (by with_reducible assumption)) | go_size))⟩
  · rw [if_neg c]
    go_enter Tryd.func29, Tryd.ntmps29
    go_wp2
    go_quiet (fail)
    go_wp2
    go_ret
    exact ⟨reti (by omega), by (repeat' (first | (with_reducible exact Up.refl _) | (with_reducible assumption) | (with_reducible refine Up.alloc ?_ _) | (with_reducible refine Up.drew ?_) | (with_reducible refine Up.drewN ?_ _) | (with_reducible refine Up.setCell ?_ ?_ _) | (with_reducible refine Up.call ?_ (by with_reducible assumption)) | go_size))⟩

theorem rounded_pn (a b : Int) (w : World) (hb1 : b ≤ 2147483648) (hb2 : -2147483648 ≤ b) (ha : -4611686018427387904 ≤ a) (ha2 : a ≤ 4611686018427387904) (a0 : 0 ≤ a) (b0 : b < 0) :
    Calls Tryd.prog 29 #[.int .i64 a, .int .i64 b] w fun e w' => e = .returned (.int .i64 (rnd a b)) ∧ Up w w' := by
  have da : decide (a < 0) = false := decide_eq_false (by omega)
  obtain ⟨h, k1, k2, k3, k4⟩ := FixM.ref_pn a b a0 b0
  rw [h]
  clear h
  by_cases c : -b - a % b ≤ a % b
  · rw [if_pos c]
    go_enter Tryd.func29, Tryd.ntmps29
    go_wp2
    go_quiet (fail)
    go_wp2
    go_ret
    exact ⟨reti (by omega), by (repeat' (first | (with_reducible exact Up.refl _) | (with_reducible assumption) | (with_reducible refine Up.alloc ?_ _) | (with_reducible refine Up.drew ?_) | (with_reducible refine Up.drewN ?_ _) | (with_reducible refine Up.setCell ?_ ?_ _) | (with_reducible refine Up.call ?_ (by with_reducible assumption)) | go_size))⟩
  · rw [if_neg c]
    go_enter Tryd.func29, Tryd.ntmps29
    go_wp2
    go_quiet (fail)
    go_wp2
    go_ret
    exact ⟨reti (by omega), by (repeat' (first | (with_reducible exact Up.refl _) | (with_reducible assumption) | (with_reducible refine Up.alloc ?_ _) | (with_reducible refine Up.drew ?_) | (with_reducible refine Up.drewN ?_ _) | (with_reducible refine Up.setCell ?_ ?_ _) | (with_reducible refine Up.call ?_ (by with_reducible assumption)) | go_size))⟩

theorem rounded_pp (a b : Int) (w : World) (hb1 : b ≤ 2147483648) (hb2 : -2147483648 ≤ b) (ha : -4611686018427387904 ≤ a) (ha2 : a ≤ 4611686018427387904) (a0 : 0 ≤ a) (b0 : 0 < b) :
    Calls Tryd.prog 29 #[.int .i64 a, .int .i64 b] w fun e w' => e = .returned (.int .i64 (rnd a b)) ∧ Up w w' := by
  have da : decide (a < 0) = false := decide_eq_false (by omega)
  have db : decide (b < 0) = false := decide_eq_false (by omega)
  obtain ⟨h, k1, k2, k3, k4⟩ := FixM.ref_pp a b a0 b0
  rw [h]
  clear h
  by_cases c : b - a % b ≤ a % b
  · rw [if_pos c]
    go_enter Tryd.func29, Tryd.ntmps29
    go_wp2
    go_quiet (fail)
    go_wp2
    go_ret
    exact ⟨reti (by omega), by (repeat' (first | (with_reducible exact Up.refl _) | (with_reducible assumption) | (with_reducible refine Up.alloc ?_ _) | (with_reducible refine Up.drew ?_) | (with_reducible refine Up.drewN ?_ _) | (with_reducible refine Up.setCell ?_ ?_ _) | (with_reducible refine Up.call ?_ (by with_reducible assumption)) | go_size))⟩
  · rw [if_neg c]
    go_enter Tryd.func29, Tryd.ntmps29
    go_wp2
    go_quiet (fail)
    go_wp2
    go_ret
    exact ⟨reti (by omega), by (repeat' (first | (with_reducible exact Up.refl _) | (with_reducible assumption) | (with_reducible refine Up.alloc ?_ _) | (with_reducible refine Up.drew ?_) | (with_reducible refine Up.drewN ?_ _) | (with_reducible refine Up.setCell ?_ ?_ _) | (with_reducible refine Up.call ?_ (by with_reducible assumption)) | go_size))⟩

theorem rounded_calls (a b : Int) (w : World) (hb : b ≠ 0) (hb1 : b ≤ 2147483648) (hb2 : -2147483648 ≤ b) (ha : -4611686018427387904 ≤ a) (ha2 : a ≤ 4611686018427387904) :
    Calls Tryd.prog 29 #[.int .i64 a, .int .i64 b] w fun e w' => e = .returned (.int .i64 (rnd a b)) ∧ Up w w' := by
  by_cases h1 : a < 0
  · by_cases h2 : b < 0
    · exact rounded_nn a b w hb1 hb2 ha ha2 h1 h2
    · exact rounded_np a b w hb1 hb2 ha ha2 h1 (by omega)
  · by_cases h2 : b < 0
    · exact rounded_pn a b w hb1 hb2 ha ha2 (by omega) h2
    · exact rounded_pp a b w hb1 hb2 ha ha2 (by omega) (by omega)

theorem add_calls (x y : Int) (w : World) :
    Calls Tryd.prog 81 #[.int .i64 x, .int .i64 y] w fun e w' => e = .returned (.tuple #[.int .i64 (add x y).1, .int .i64 (add x y).2]) ∧ Up w w' := by
  by_cases hx : fits x = true
  · by_cases hy : fits y = true
    · have hx' := FixM.fits_iff.1 hx
      have hy' := FixM.fits_iff.1 hy
      obtain ⟨h1, h2⟩ := hx'
      obtain ⟨h3, h4⟩ := hy'
      have H := Lib.hid (show add x y = within (x + y) by simp [add, hx, hy])
      go_enter Tryd.func81, Tryd.ntmps81
      go_wp2_with (first
        | (go_at_call 31; ((with_reducible refine (fits_calls _ _).mono ?_); rintro e w' ⟨rfl, rfl⟩))
        | (go_at_call 97; ((with_reducible refine (keep_calls _ _).mono ?_); rintro e w' ⟨rfl, rfl⟩)))
      go_ret2
      exact ⟨by rw [H.out]; rfl, by (repeat' (first | (with_reducible exact Up.refl _) | (with_reducible assumption) | (with_reducible refine Up.alloc ?_ _) | (with_reducible refine Up.drew ?_) | (with_reducible refine Up.drewN ?_ _) | (with_reducible refine Up.setCell ?_ ?_ _) | (with_reducible refine Up.call ?_ (by with_reducible assumption)) | go_size))⟩
    · have hy : fits y = false := by simpa using hy
      have H := Lib.hid (show add x y = (0, 11) by simp [add, hx, hy])
      go_enter Tryd.func81, Tryd.ntmps81
      go_wp2_with (go_at_call 31; ((with_reducible refine (fits_calls _ _).mono ?_); rintro e w' ⟨rfl, rfl⟩))
      go_ret2
      exact ⟨by rw [H.out]; rfl, by (repeat' (first | (with_reducible exact Up.refl _) | (with_reducible assumption) | (with_reducible refine Up.alloc ?_ _) | (with_reducible refine Up.drew ?_) | (with_reducible refine Up.drewN ?_ _) | (with_reducible refine Up.setCell ?_ ?_ _) | (with_reducible refine Up.call ?_ (by with_reducible assumption)) | go_size))⟩
  · have hx : fits x = false := by simpa using hx
    have H := Lib.hid (show add x y = (0, 11) by simp [add, hx])
    go_enter Tryd.func81, Tryd.ntmps81
    go_wp2_with (go_at_call 31; ((with_reducible refine (fits_calls _ _).mono ?_); rintro e w' ⟨rfl, rfl⟩))
    go_ret2
    exact ⟨by rw [H.out]; rfl, by (repeat' (first | (with_reducible exact Up.refl _) | (with_reducible assumption) | (with_reducible refine Up.alloc ?_ _) | (with_reducible refine Up.drew ?_) | (with_reducible refine Up.drewN ?_ _) | (with_reducible refine Up.setCell ?_ ?_ _) | (with_reducible refine Up.call ?_ (by with_reducible assumption)) | go_size))⟩


theorem mul_calls (x y : Int) (w : World) :
    Calls Tryd.prog 79 #[.int .i64 x, .int .i64 y] w fun e w' => e = .returned (.tuple #[.int .i64 (mul x y).1, .int .i64 (mul x y).2]) ∧ Up w w' := by
  by_cases hx : fits x = true
  · by_cases hy : fits y = true
    · have hx' := FixM.fits_iff.1 hx
      have hy' := FixM.fits_iff.1 hy
      obtain ⟨h1, h2⟩ := hx'
      obtain ⟨h3, h4⟩ := hy'
      obtain ⟨k1, k2⟩ := FixM.mul_bound hx hy
      have H := Lib.hid (show mul x y = within (rnd (x * y) 65536) by simp [mul, hx, hy])
      go_enter Tryd.func79, Tryd.ntmps79
      go_wp2_with (first
        | (go_at_call 31; ((with_reducible refine (fits_calls _ _).mono ?_); rintro e w' ⟨rfl, rfl⟩))
        | (go_at_call 29; ((with_reducible refine (rounded_calls (x * y) 65536 _ (by decide) (by decide) (by decide) k1 k2).mono ?_); rintro e w' ⟨rfl, hu⟩))
        | (go_at_call 97; ((with_reducible refine (keep_calls _ _).mono ?_); rintro e w' ⟨rfl, rfl⟩)))
      go_ret2
      exact ⟨by rw [H.out]; rfl, by (repeat' (first | (with_reducible exact Up.refl _) | (with_reducible assumption) | (with_reducible refine Up.alloc ?_ _) | (with_reducible refine Up.drew ?_) | (with_reducible refine Up.drewN ?_ _) | (with_reducible refine Up.setCell ?_ ?_ _) | (with_reducible refine Up.call ?_ (by with_reducible assumption)) | go_size))⟩
    · have hy : fits y = false := by simpa using hy
      have H := Lib.hid (show mul x y = (0, 11) by simp [mul, hx, hy])
      go_enter Tryd.func79, Tryd.ntmps79
      go_wp2_with (go_at_call 31; ((with_reducible refine (fits_calls _ _).mono ?_); rintro e w' ⟨rfl, rfl⟩))
      go_ret2
      exact ⟨by rw [H.out]; rfl, by (repeat' (first | (with_reducible exact Up.refl _) | (with_reducible assumption) | (with_reducible refine Up.alloc ?_ _) | (with_reducible refine Up.drew ?_) | (with_reducible refine Up.drewN ?_ _) | (with_reducible refine Up.setCell ?_ ?_ _) | (with_reducible refine Up.call ?_ (by with_reducible assumption)) | go_size))⟩
  · have hx : fits x = false := by simpa using hx
    have H := Lib.hid (show mul x y = (0, 11) by simp [mul, hx])
    go_enter Tryd.func79, Tryd.ntmps79
    go_wp2_with (go_at_call 31; ((with_reducible refine (fits_calls _ _).mono ?_); rintro e w' ⟨rfl, rfl⟩))
    go_ret2
    exact ⟨by rw [H.out]; rfl, by (repeat' (first | (with_reducible exact Up.refl _) | (with_reducible assumption) | (with_reducible refine Up.alloc ?_ _) | (with_reducible refine Up.drew ?_) | (with_reducible refine Up.drewN ?_ _) | (with_reducible refine Up.setCell ?_ ?_ _) | (with_reducible refine Up.call ?_ (by with_reducible assumption)) | go_size))⟩


end Go.Proofs.YtjdbefpfjhdmoaaDoor.Rfix
