/- The reference's unary operators. -/
import Derived.Test.YtakickodehebmaaDoorArRA
import Derived.Test.YtakickodehebmaaDoorTurn3
namespace Go.Proofs.YtakickodehebmaaDoor.Ar
open Go.ChangeShapes Go.WideShapes Go.ChangeAt Go.RowKit
open Go.Proofs.YtakickodehebmaaDoor.FixM (fits within)
open Go.Proofs.YtakickodehebmaaDoor.ArM
set_option linter.unusedVariables false
set_option linter.unusedSimpArgs false

theorem small_r (n : Int) (w : World) : Calls Tryd.prog 28 #[.int .i64 n] w fun E w' => E = .returned (.bool (fits n)) ∧ w = w' := by
  by_cases h1 : -2147483648 ≤ n
  · by_cases h2 : n ≤ 2147483647
    · have H := Lib.hid (show fits n = true from FixM.fits_true h1 h2)
      go_enter Tryd.func28, Tryd.ntmps28
      go_wp2
      go_ret
      exact ⟨by rw [H.out]; rfl, rfl⟩
    · have H := Lib.hid (show fits n = false by simp [FixM.fits, h2])
      have d2 : decide (n ≤ 2147483647) = false := decide_eq_false h2
      go_enter Tryd.func28, Tryd.ntmps28
      go_wp2
      go_ret
      exact ⟨by rw [H.out]; rfl, rfl⟩
  · have H := Lib.hid (show fits n = false by simp [FixM.fits, h1])
    have d1 : decide (-2147483648 ≤ n) = false := decide_eq_false h1
    go_enter Tryd.func28, Tryd.ntmps28
    go_wp2
    go_ret
    exact ⟨by rw [H.out]; rfl, rfl⟩

set_option maxHeartbeats 1000000 in
theorem unary_0 (k : Int) (x : Bool) (a n : Int) (s : ByteArray) (w : World) (hN : numb k n = true) (rk rn re : Int) (hR : un 0 k n = (rk, rn, re)) : Calls Tryd.prog 23 #[.string ⟨#[110, 101, 103]⟩, .agg #[.int .i64 k, .bool x, .int .i64 a, .int .i64 n, .string s, .pointer none, .pointer none, .pointer none, .int .i64 0, .int .i64 0]] w fun E w' => GivesR w rk rn re E w' ∧ Up w w' := by
  obtain ⟨hk, hn1, hn2⟩ := numb_fits hN
  have hS : signs 0 k n = (rk, rn, re) := by simpa [un, hN] using hR
  clear hR
  by_cases h1 : k = 1
  · subst h1
    cases h2 : fits (-n)
    · obtain ⟨p, q, hpq⟩ : ∃ p q, asReal 1 n = (p, q) := ⟨_, _, rfl⟩
      by_cases hq : q = 0
      · subst hq
        have hG : real ((FixM.sub 0 p).1, (FixM.sub 0 p).2) = (rk, rn, re) := by simpa [signs, h2, hpq] using hS
        have HG := Lib.hid hG
        have HPQ := Lib.hid hpq
        have HF := Lib.hid h2
        clear hS hN hk hG hpq h2
        go_enter Tryd.func23, Tryd.ntmps23
        go_wp2_with (first
          | (go_at_call 28; ((with_reducible refine (small_r _ _).mono ?_); rw [HF.out]; rintro E w4 ⟨rfl, rfl⟩))
          | (go_at_call 29; ((with_reducible refine (asReal_r 1 x a n s _ p 0 HPQ.out).mono ?_); rintro E w1 ⟨rfl, hu1⟩))
          | (go_at_call 32; ((with_reducible refine (Rfix.sub_calls _ _ _).mono ?_); rintro E w5 ⟨rfl, hu5⟩))
          | (go_at_call 30; ((with_reducible refine (gives_r _ _ rk rn re HG.out _).mono ?_); rintro E w2 ⟨⟨v, rfl, hv⟩, hu2⟩; have HV := Lib.hid hv; clear hv)))
        go_ret2
        exact ⟨⟨v, rfl, HV.out.of_up (by (repeat' (first | (with_reducible exact Up.refl _) | (with_reducible assumption) | (with_reducible refine Up.alloc ?_ _) | (with_reducible refine Up.drew ?_) | (with_reducible refine Up.drewN ?_ _) | (with_reducible refine Up.setCell ?_ ?_ _) | (with_reducible refine Up.call ?_ (by with_reducible assumption)) | go_size)))⟩, by (repeat' (first | (with_reducible exact Up.refl _) | (with_reducible assumption) | (with_reducible refine Up.alloc ?_ _) | (with_reducible refine Up.drew ?_) | (with_reducible refine Up.drewN ?_ _) | (with_reducible refine Up.setCell ?_ ?_ _) | (with_reducible refine Up.call ?_ (by with_reducible assumption)) | go_size))⟩
      · obtain ⟨rfl, rfl, rfl⟩ : 0 = rk ∧ 0 = rn ∧ q = re := by simpa [signs, h2, hpq, hq] using hS
        have dq : (q == 0) = false := by simpa using hq
        have HQ := Lib.hid hq
        have HPQ := Lib.hid hpq
        have HF := Lib.hid h2
        clear hS hN hk hpq h2 hq
        go_enter Tryd.func23, Tryd.ntmps23
        go_wp2_with (first
          | (go_at_call 28; ((with_reducible refine (small_r _ _).mono ?_); rw [HF.out]; rintro E w4 ⟨rfl, rfl⟩))
          | (go_at_call 29; ((with_reducible refine (asReal_r 1 x a n s _ p q HPQ.out).mono ?_); rintro E w1 ⟨rfl, hu1⟩)))
        go_ret2
        exact ⟨⟨_, rfl, Or.inr ⟨HQ.out, rfl⟩⟩, by (repeat' (first | (with_reducible exact Up.refl _) | (with_reducible assumption) | (with_reducible refine Up.alloc ?_ _) | (with_reducible refine Up.drew ?_) | (with_reducible refine Up.drewN ?_ _) | (with_reducible refine Up.setCell ?_ ?_ _) | (with_reducible refine Up.call ?_ (by with_reducible assumption)) | go_size))⟩
    · obtain ⟨rfl, rfl, rfl⟩ : 1 = rk ∧ -n = rn ∧ 0 = re := by simpa [signs, h2] using hS
      have HF := Lib.hid h2
      clear hS hN hk h2
      go_enter Tryd.func23, Tryd.ntmps23
      go_wp2_with (first
        | (go_at_call 28; ((with_reducible refine (small_r _ _).mono ?_); rw [HF.out]; rintro E w4 ⟨rfl, rfl⟩))
        | (go_at_call 22; ((with_reducible refine (whole_r _ _).mono ?_); rintro E w3 ⟨rfl, hu3⟩))
        | (go_at_call 19; ((with_reducible refine (one_r 1 (-n) _).mono ?_); rintro E w2 ⟨⟨v, rfl, hv⟩, hu2⟩; have HV := Lib.hid hv; clear hv)))
      go_ret2
      exact ⟨⟨v, rfl, HV.out.of_up (by (repeat' (first | (with_reducible exact Up.refl _) | (with_reducible assumption) | (with_reducible refine Up.alloc ?_ _) | (with_reducible refine Up.drew ?_) | (with_reducible refine Up.drewN ?_ _) | (with_reducible refine Up.setCell ?_ ?_ _) | (with_reducible refine Up.call ?_ (by with_reducible assumption)) | go_size)))⟩, by (repeat' (first | (with_reducible exact Up.refl _) | (with_reducible assumption) | (with_reducible refine Up.alloc ?_ _) | (with_reducible refine Up.drew ?_) | (with_reducible refine Up.drewN ?_ _) | (with_reducible refine Up.setCell ?_ ?_ _) | (with_reducible refine Up.call ?_ (by with_reducible assumption)) | go_size))⟩
  · have d1 : (k == 1) = false := by simpa using h1
    have hG : real ((FixM.sub 0 n).1, (FixM.sub 0 n).2) = (rk, rn, re) := by simpa [signs, h1, asReal] using hS
    have HG := Lib.hid hG
    have HPQ := Lib.hid (show asReal k n = (n, 0) by simp [asReal, h1])
    clear hS hN hk hG h1
    go_enter Tryd.func23, Tryd.ntmps23
    go_wp2_with (first
      | (go_at_call 29; ((with_reducible refine (asReal_r k x a n s _ n 0 HPQ.out).mono ?_); rintro E w1 ⟨rfl, hu1⟩))
      | (go_at_call 32; ((with_reducible refine (Rfix.sub_calls _ _ _).mono ?_); rintro E w5 ⟨rfl, hu5⟩))
      | (go_at_call 30; ((with_reducible refine (gives_r _ _ rk rn re HG.out _).mono ?_); rintro E w2 ⟨⟨v, rfl, hv⟩, hu2⟩; have HV := Lib.hid hv; clear hv)))
    go_ret2
    exact ⟨⟨v, rfl, HV.out.of_up (by (repeat' (first | (with_reducible exact Up.refl _) | (with_reducible assumption) | (with_reducible refine Up.alloc ?_ _) | (with_reducible refine Up.drew ?_) | (with_reducible refine Up.drewN ?_ _) | (with_reducible refine Up.setCell ?_ ?_ _) | (with_reducible refine Up.call ?_ (by with_reducible assumption)) | go_size)))⟩, by (repeat' (first | (with_reducible exact Up.refl _) | (with_reducible assumption) | (with_reducible refine Up.alloc ?_ _) | (with_reducible refine Up.drew ?_) | (with_reducible refine Up.drewN ?_ _) | (with_reducible refine Up.setCell ?_ ?_ _) | (with_reducible refine Up.call ?_ (by with_reducible assumption)) | go_size))⟩

set_option maxHeartbeats 1000000 in
theorem unary_1 (k : Int) (x : Bool) (a n : Int) (s : ByteArray) (w : World) (hN : numb k n = true) (rk rn re : Int) (hR : un 1 k n = (rk, rn, re)) : Calls Tryd.prog 23 #[.string ⟨#[97, 98, 115]⟩, .agg #[.int .i64 k, .bool x, .int .i64 a, .int .i64 n, .string s, .pointer none, .pointer none, .pointer none, .int .i64 0, .int .i64 0]] w fun E w' => GivesR w rk rn re E w' ∧ Up w w' := by
  obtain ⟨hk, hn1, hn2⟩ := numb_fits hN
  have hS : signs 1 k n = (rk, rn, re) := by simpa [un, hN] using hR
  clear hR
  by_cases h0 : 0 ≤ n
  · obtain ⟨rfl, rfl, rfl⟩ : k = rk ∧ n = rn ∧ 0 = re := by simpa [signs, h0] using hS
    have d0 : decide (0 ≤ n) = true := decide_eq_true h0
    clear hS hN hk
    go_enter Tryd.func23, Tryd.ntmps23
    go_wp2_with (first
      | (go_at_call 19; ((with_reducible refine (one_r k n _).mono ?_); rintro E w2 ⟨⟨v, rfl, hv⟩, hu2⟩; have HV := Lib.hid hv; clear hv)))
    go_ret2
    exact ⟨⟨v, rfl, HV.out.of_up (by (repeat' (first | (with_reducible exact Up.refl _) | (with_reducible assumption) | (with_reducible refine Up.alloc ?_ _) | (with_reducible refine Up.drew ?_) | (with_reducible refine Up.drewN ?_ _) | (with_reducible refine Up.setCell ?_ ?_ _) | (with_reducible refine Up.call ?_ (by with_reducible assumption)) | go_size)))⟩, by (repeat' (first | (with_reducible exact Up.refl _) | (with_reducible assumption) | (with_reducible refine Up.alloc ?_ _) | (with_reducible refine Up.drew ?_) | (with_reducible refine Up.drewN ?_ _) | (with_reducible refine Up.setCell ?_ ?_ _) | (with_reducible refine Up.call ?_ (by with_reducible assumption)) | go_size))⟩
  have d0 : decide (0 ≤ n) = false := decide_eq_false h0
  by_cases h1 : k = 1
  · subst h1
    cases h2 : fits (-n)
    · obtain ⟨p, q, hpq⟩ : ∃ p q, asReal 1 n = (p, q) := ⟨_, _, rfl⟩
      by_cases hq : q = 0
      · subst hq
        have hG : real ((FixM.sub 0 p).1, (FixM.sub 0 p).2) = (rk, rn, re) := by simpa [signs, h2, hpq, h0] using hS
        have HG := Lib.hid hG
        have HPQ := Lib.hid hpq
        have HF := Lib.hid h2
        clear hS hN hk hG hpq h2
        go_enter Tryd.func23, Tryd.ntmps23
        go_wp2_with (first
          | (go_at_call 28; ((with_reducible refine (small_r _ _).mono ?_); rw [HF.out]; rintro E w4 ⟨rfl, rfl⟩))
          | (go_at_call 29; ((with_reducible refine (asReal_r 1 x a n s _ p 0 HPQ.out).mono ?_); rintro E w1 ⟨rfl, hu1⟩))
          | (go_at_call 32; ((with_reducible refine (Rfix.sub_calls _ _ _).mono ?_); rintro E w5 ⟨rfl, hu5⟩))
          | (go_at_call 30; ((with_reducible refine (gives_r _ _ rk rn re HG.out _).mono ?_); rintro E w2 ⟨⟨v, rfl, hv⟩, hu2⟩; have HV := Lib.hid hv; clear hv)))
        go_ret2
        exact ⟨⟨v, rfl, HV.out.of_up (by (repeat' (first | (with_reducible exact Up.refl _) | (with_reducible assumption) | (with_reducible refine Up.alloc ?_ _) | (with_reducible refine Up.drew ?_) | (with_reducible refine Up.drewN ?_ _) | (with_reducible refine Up.setCell ?_ ?_ _) | (with_reducible refine Up.call ?_ (by with_reducible assumption)) | go_size)))⟩, by (repeat' (first | (with_reducible exact Up.refl _) | (with_reducible assumption) | (with_reducible refine Up.alloc ?_ _) | (with_reducible refine Up.drew ?_) | (with_reducible refine Up.drewN ?_ _) | (with_reducible refine Up.setCell ?_ ?_ _) | (with_reducible refine Up.call ?_ (by with_reducible assumption)) | go_size))⟩
      · obtain ⟨rfl, rfl, rfl⟩ : 0 = rk ∧ 0 = rn ∧ q = re := by simpa [signs, h2, hpq, hq, h0] using hS
        have dq : (q == 0) = false := by simpa using hq
        have HQ := Lib.hid hq
        have HPQ := Lib.hid hpq
        have HF := Lib.hid h2
        clear hS hN hk hpq h2 hq
        go_enter Tryd.func23, Tryd.ntmps23
        go_wp2_with (first
          | (go_at_call 28; ((with_reducible refine (small_r _ _).mono ?_); rw [HF.out]; rintro E w4 ⟨rfl, rfl⟩))
          | (go_at_call 29; ((with_reducible refine (asReal_r 1 x a n s _ p q HPQ.out).mono ?_); rintro E w1 ⟨rfl, hu1⟩)))
        go_ret2
        exact ⟨⟨_, rfl, Or.inr ⟨HQ.out, rfl⟩⟩, by (repeat' (first | (with_reducible exact Up.refl _) | (with_reducible assumption) | (with_reducible refine Up.alloc ?_ _) | (with_reducible refine Up.drew ?_) | (with_reducible refine Up.drewN ?_ _) | (with_reducible refine Up.setCell ?_ ?_ _) | (with_reducible refine Up.call ?_ (by with_reducible assumption)) | go_size))⟩
    · obtain ⟨rfl, rfl, rfl⟩ : 1 = rk ∧ -n = rn ∧ 0 = re := by simpa [signs, h2, h0] using hS
      have HF := Lib.hid h2
      clear hS hN hk h2
      go_enter Tryd.func23, Tryd.ntmps23
      go_wp2_with (first
        | (go_at_call 28; ((with_reducible refine (small_r _ _).mono ?_); rw [HF.out]; rintro E w4 ⟨rfl, rfl⟩))
        | (go_at_call 22; ((with_reducible refine (whole_r _ _).mono ?_); rintro E w3 ⟨rfl, hu3⟩))
        | (go_at_call 19; ((with_reducible refine (one_r 1 (-n) _).mono ?_); rintro E w2 ⟨⟨v, rfl, hv⟩, hu2⟩; have HV := Lib.hid hv; clear hv)))
      go_ret2
      exact ⟨⟨v, rfl, HV.out.of_up (by (repeat' (first | (with_reducible exact Up.refl _) | (with_reducible assumption) | (with_reducible refine Up.alloc ?_ _) | (with_reducible refine Up.drew ?_) | (with_reducible refine Up.drewN ?_ _) | (with_reducible refine Up.setCell ?_ ?_ _) | (with_reducible refine Up.call ?_ (by with_reducible assumption)) | go_size)))⟩, by (repeat' (first | (with_reducible exact Up.refl _) | (with_reducible assumption) | (with_reducible refine Up.alloc ?_ _) | (with_reducible refine Up.drew ?_) | (with_reducible refine Up.drewN ?_ _) | (with_reducible refine Up.setCell ?_ ?_ _) | (with_reducible refine Up.call ?_ (by with_reducible assumption)) | go_size))⟩
  · have d1 : (k == 1) = false := by simpa using h1
    have hG : real ((FixM.sub 0 n).1, (FixM.sub 0 n).2) = (rk, rn, re) := by simpa [signs, h1, asReal, h0] using hS
    have HG := Lib.hid hG
    have HPQ := Lib.hid (show asReal k n = (n, 0) by simp [asReal, h1])
    clear hS hN hk hG h1
    go_enter Tryd.func23, Tryd.ntmps23
    go_wp2_with (first
      | (go_at_call 29; ((with_reducible refine (asReal_r k x a n s _ n 0 HPQ.out).mono ?_); rintro E w1 ⟨rfl, hu1⟩))
      | (go_at_call 32; ((with_reducible refine (Rfix.sub_calls _ _ _).mono ?_); rintro E w5 ⟨rfl, hu5⟩))
      | (go_at_call 30; ((with_reducible refine (gives_r _ _ rk rn re HG.out _).mono ?_); rintro E w2 ⟨⟨v, rfl, hv⟩, hu2⟩; have HV := Lib.hid hv; clear hv)))
    go_ret2
    exact ⟨⟨v, rfl, HV.out.of_up (by (repeat' (first | (with_reducible exact Up.refl _) | (with_reducible assumption) | (with_reducible refine Up.alloc ?_ _) | (with_reducible refine Up.drew ?_) | (with_reducible refine Up.drewN ?_ _) | (with_reducible refine Up.setCell ?_ ?_ _) | (with_reducible refine Up.call ?_ (by with_reducible assumption)) | go_size)))⟩, by (repeat' (first | (with_reducible exact Up.refl _) | (with_reducible assumption) | (with_reducible refine Up.alloc ?_ _) | (with_reducible refine Up.drew ?_) | (with_reducible refine Up.drewN ?_ _) | (with_reducible refine Up.setCell ?_ ?_ _) | (with_reducible refine Up.call ?_ (by with_reducible assumption)) | go_size))⟩

set_option maxHeartbeats 1000000 in
theorem unary_2 (k : Int) (x : Bool) (a n : Int) (s : ByteArray) (w : World) (hN : numb k n = true) (rk rn re : Int) (hR : un 2 k n = (rk, rn, re)) : Calls Tryd.prog 23 #[.string ⟨#[99, 101, 105, 108, 105, 110, 103]⟩, .agg #[.int .i64 k, .bool x, .int .i64 a, .int .i64 n, .string s, .pointer none, .pointer none, .pointer none, .int .i64 0, .int .i64 0]] w fun E w' => GivesR w rk rn re E w' ∧ Up w w' := by
  obtain ⟨hk, hn1, hn2⟩ := numb_fits hN
  have hS : wholes 2 k n = (rk, rn, re) := by simpa [un, hN] using hR
  clear hR
  by_cases h1 : k = 1
  · subst h1
    obtain ⟨rfl, rfl, rfl⟩ : 1 = rk ∧ n = rn ∧ 0 = re := by simpa [wholes] using hS
    clear hS hN hk
    go_enter Tryd.func23, Tryd.ntmps23
    go_wp2_with (first
      | (go_at_call 22; ((with_reducible refine (whole_r _ _).mono ?_); rintro E w3 ⟨rfl, hu3⟩))
      | (go_at_call 19; ((with_reducible refine (one_r 1 n _).mono ?_); rintro E w2 ⟨⟨v, rfl, hv⟩, hu2⟩; have HV := Lib.hid hv; clear hv)))
    go_ret2
    exact ⟨⟨v, rfl, HV.out.of_up (by (repeat' (first | (with_reducible exact Up.refl _) | (with_reducible assumption) | (with_reducible refine Up.alloc ?_ _) | (with_reducible refine Up.drew ?_) | (with_reducible refine Up.drewN ?_ _) | (with_reducible refine Up.setCell ?_ ?_ _) | (with_reducible refine Up.call ?_ (by with_reducible assumption)) | go_size)))⟩, by (repeat' (first | (with_reducible exact Up.refl _) | (with_reducible assumption) | (with_reducible refine Up.alloc ?_ _) | (with_reducible refine Up.drew ?_) | (with_reducible refine Up.drewN ?_ _) | (with_reducible refine Up.setCell ?_ ?_ _) | (with_reducible refine Up.call ?_ (by with_reducible assumption)) | go_size))⟩
  · have d1 : (k == 1) = false := by simpa using h1
    have hG : real ((FixM.ceiling n).1, (FixM.ceiling n).2) = (rk, rn, re) := by simpa [wholes, h1] using hS
    have HG := Lib.hid hG
    clear hS hN hk hG h1
    go_enter Tryd.func23, Tryd.ntmps23
    go_wp2_with (first
      | (go_at_call 53; ((with_reducible refine (Rfix.ceiling_calls _ _).mono ?_); rintro E w5 ⟨rfl, rfl⟩))
      | (go_at_call 30; ((with_reducible refine (gives_r _ _ rk rn re HG.out _).mono ?_); rintro E w2 ⟨⟨v, rfl, hv⟩, hu2⟩; have HV := Lib.hid hv; clear hv)))
    go_ret2
    exact ⟨⟨v, rfl, HV.out.of_up (by (repeat' (first | (with_reducible exact Up.refl _) | (with_reducible assumption) | (with_reducible refine Up.alloc ?_ _) | (with_reducible refine Up.drew ?_) | (with_reducible refine Up.drewN ?_ _) | (with_reducible refine Up.setCell ?_ ?_ _) | (with_reducible refine Up.call ?_ (by with_reducible assumption)) | go_size)))⟩, by (repeat' (first | (with_reducible exact Up.refl _) | (with_reducible assumption) | (with_reducible refine Up.alloc ?_ _) | (with_reducible refine Up.drew ?_) | (with_reducible refine Up.drewN ?_ _) | (with_reducible refine Up.setCell ?_ ?_ _) | (with_reducible refine Up.call ?_ (by with_reducible assumption)) | go_size))⟩

set_option maxHeartbeats 1000000 in
theorem unary_3 (k : Int) (x : Bool) (a n : Int) (s : ByteArray) (w : World) (hN : numb k n = true) (rk rn re : Int) (hR : un 3 k n = (rk, rn, re)) : Calls Tryd.prog 23 #[.string ⟨#[102, 108, 111, 111, 114]⟩, .agg #[.int .i64 k, .bool x, .int .i64 a, .int .i64 n, .string s, .pointer none, .pointer none, .pointer none, .int .i64 0, .int .i64 0]] w fun E w' => GivesR w rk rn re E w' ∧ Up w w' := by
  obtain ⟨hk, hn1, hn2⟩ := numb_fits hN
  have hS : wholes 3 k n = (rk, rn, re) := by simpa [un, hN] using hR
  clear hR
  by_cases h1 : k = 1
  · subst h1
    obtain ⟨rfl, rfl, rfl⟩ : 1 = rk ∧ n = rn ∧ 0 = re := by simpa [wholes] using hS
    clear hS hN hk
    go_enter Tryd.func23, Tryd.ntmps23
    go_wp2_with (first
      | (go_at_call 22; ((with_reducible refine (whole_r _ _).mono ?_); rintro E w3 ⟨rfl, hu3⟩))
      | (go_at_call 19; ((with_reducible refine (one_r 1 n _).mono ?_); rintro E w2 ⟨⟨v, rfl, hv⟩, hu2⟩; have HV := Lib.hid hv; clear hv)))
    go_ret2
    exact ⟨⟨v, rfl, HV.out.of_up (by (repeat' (first | (with_reducible exact Up.refl _) | (with_reducible assumption) | (with_reducible refine Up.alloc ?_ _) | (with_reducible refine Up.drew ?_) | (with_reducible refine Up.drewN ?_ _) | (with_reducible refine Up.setCell ?_ ?_ _) | (with_reducible refine Up.call ?_ (by with_reducible assumption)) | go_size)))⟩, by (repeat' (first | (with_reducible exact Up.refl _) | (with_reducible assumption) | (with_reducible refine Up.alloc ?_ _) | (with_reducible refine Up.drew ?_) | (with_reducible refine Up.drewN ?_ _) | (with_reducible refine Up.setCell ?_ ?_ _) | (with_reducible refine Up.call ?_ (by with_reducible assumption)) | go_size))⟩
  · have d1 : (k == 1) = false := by simpa using h1
    obtain ⟨rfl, rfl, rfl⟩ : 2 = rk ∧ FixM.floor n = rn ∧ 0 = re := by simpa [wholes, h1] using hS
    clear hS hN hk h1
    go_enter Tryd.func23, Tryd.ntmps23
    go_wp2_with (first
      | (go_at_call 56; ((with_reducible refine (Rfix.floor_calls _ _).mono ?_); rintro E w5 ⟨rfl, rfl⟩))
      | (go_at_call 55; ((with_reducible refine (real_r _ _).mono ?_); rintro E w3 ⟨rfl, hu3⟩))
      | (go_at_call 19; ((with_reducible refine (one_r 2 (FixM.floor n) _).mono ?_); rintro E w2 ⟨⟨v, rfl, hv⟩, hu2⟩; have HV := Lib.hid hv; clear hv)))
    go_ret2
    exact ⟨⟨v, rfl, HV.out.of_up (by (repeat' (first | (with_reducible exact Up.refl _) | (with_reducible assumption) | (with_reducible refine Up.alloc ?_ _) | (with_reducible refine Up.drew ?_) | (with_reducible refine Up.drewN ?_ _) | (with_reducible refine Up.setCell ?_ ?_ _) | (with_reducible refine Up.call ?_ (by with_reducible assumption)) | go_size)))⟩, by (repeat' (first | (with_reducible exact Up.refl _) | (with_reducible assumption) | (with_reducible refine Up.alloc ?_ _) | (with_reducible refine Up.drew ?_) | (with_reducible refine Up.drewN ?_ _) | (with_reducible refine Up.setCell ?_ ?_ _) | (with_reducible refine Up.call ?_ (by with_reducible assumption)) | go_size))⟩

set_option maxHeartbeats 1000000 in
theorem unary_4 (k : Int) (x : Bool) (a n : Int) (s : ByteArray) (w : World) (hN : numb k n = true) (rk rn re : Int) (hR : un 4 k n = (rk, rn, re)) : Calls Tryd.prog 23 #[.string ⟨#[114, 111, 117, 110, 100]⟩, .agg #[.int .i64 k, .bool x, .int .i64 a, .int .i64 n, .string s, .pointer none, .pointer none, .pointer none, .int .i64 0, .int .i64 0]] w fun E w' => GivesR w rk rn re E w' ∧ Up w w' := by
  obtain ⟨hk, hn1, hn2⟩ := numb_fits hN
  have hS : wholes 4 k n = (rk, rn, re) := by simpa [un, hN] using hR
  clear hR
  by_cases h1 : k = 1
  · subst h1
    obtain ⟨rfl, rfl, rfl⟩ : 1 = rk ∧ n = rn ∧ 0 = re := by simpa [wholes] using hS
    clear hS hN hk
    go_enter Tryd.func23, Tryd.ntmps23
    go_wp2_with (first
      | (go_at_call 22; ((with_reducible refine (whole_r _ _).mono ?_); rintro E w3 ⟨rfl, hu3⟩))
      | (go_at_call 19; ((with_reducible refine (one_r 1 n _).mono ?_); rintro E w2 ⟨⟨v, rfl, hv⟩, hu2⟩; have HV := Lib.hid hv; clear hv)))
    go_ret2
    exact ⟨⟨v, rfl, HV.out.of_up (by (repeat' (first | (with_reducible exact Up.refl _) | (with_reducible assumption) | (with_reducible refine Up.alloc ?_ _) | (with_reducible refine Up.drew ?_) | (with_reducible refine Up.drewN ?_ _) | (with_reducible refine Up.setCell ?_ ?_ _) | (with_reducible refine Up.call ?_ (by with_reducible assumption)) | go_size)))⟩, by (repeat' (first | (with_reducible exact Up.refl _) | (with_reducible assumption) | (with_reducible refine Up.alloc ?_ _) | (with_reducible refine Up.drew ?_) | (with_reducible refine Up.drewN ?_ _) | (with_reducible refine Up.setCell ?_ ?_ _) | (with_reducible refine Up.call ?_ (by with_reducible assumption)) | go_size))⟩
  · have d1 : (k == 1) = false := by simpa using h1
    have hG : real ((FixM.round n).1, (FixM.round n).2) = (rk, rn, re) := by simpa [wholes, h1] using hS
    have HG := Lib.hid hG
    clear hS hN hk hG h1
    go_enter Tryd.func23, Tryd.ntmps23
    go_wp2_with (first
      | (go_at_call 54; ((with_reducible refine (Rfix.round_calls _ _).mono ?_); rintro E w5 ⟨rfl, rfl⟩))
      | (go_at_call 30; ((with_reducible refine (gives_r _ _ rk rn re HG.out _).mono ?_); rintro E w2 ⟨⟨v, rfl, hv⟩, hu2⟩; have HV := Lib.hid hv; clear hv)))
    go_ret2
    exact ⟨⟨v, rfl, HV.out.of_up (by (repeat' (first | (with_reducible exact Up.refl _) | (with_reducible assumption) | (with_reducible refine Up.alloc ?_ _) | (with_reducible refine Up.drew ?_) | (with_reducible refine Up.drewN ?_ _) | (with_reducible refine Up.setCell ?_ ?_ _) | (with_reducible refine Up.call ?_ (by with_reducible assumption)) | go_size)))⟩, by (repeat' (first | (with_reducible exact Up.refl _) | (with_reducible assumption) | (with_reducible refine Up.alloc ?_ _) | (with_reducible refine Up.drew ?_) | (with_reducible refine Up.drewN ?_ _) | (with_reducible refine Up.setCell ?_ ?_ _) | (with_reducible refine Up.call ?_ (by with_reducible assumption)) | go_size))⟩

set_option maxHeartbeats 1000000 in
theorem unary_5 (k : Int) (x : Bool) (a n : Int) (s : ByteArray) (w : World) (hN : numb k n = true) (rk rn re : Int) (hR : un 5 k n = (rk, rn, re)) : Calls Tryd.prog 23 #[.string ⟨#[116, 114, 117, 110, 99, 97, 116, 101]⟩, .agg #[.int .i64 k, .bool x, .int .i64 a, .int .i64 n, .string s, .pointer none, .pointer none, .pointer none, .int .i64 0, .int .i64 0]] w fun E w' => GivesR w rk rn re E w' ∧ Up w w' := by
  obtain ⟨hk, hn1, hn2⟩ := numb_fits hN
  have hS : wholes 5 k n = (rk, rn, re) := by simpa [un, hN] using hR
  clear hR
  by_cases h1 : k = 1
  · subst h1
    obtain ⟨rfl, rfl, rfl⟩ : 1 = rk ∧ n = rn ∧ 0 = re := by simpa [wholes] using hS
    clear hS hN hk
    go_enter Tryd.func23, Tryd.ntmps23
    go_wp2_with (first
      | (go_at_call 22; ((with_reducible refine (whole_r _ _).mono ?_); rintro E w3 ⟨rfl, hu3⟩))
      | (go_at_call 19; ((with_reducible refine (one_r 1 n _).mono ?_); rintro E w2 ⟨⟨v, rfl, hv⟩, hu2⟩; have HV := Lib.hid hv; clear hv)))
    go_ret2
    exact ⟨⟨v, rfl, HV.out.of_up (by (repeat' (first | (with_reducible exact Up.refl _) | (with_reducible assumption) | (with_reducible refine Up.alloc ?_ _) | (with_reducible refine Up.drew ?_) | (with_reducible refine Up.drewN ?_ _) | (with_reducible refine Up.setCell ?_ ?_ _) | (with_reducible refine Up.call ?_ (by with_reducible assumption)) | go_size)))⟩, by (repeat' (first | (with_reducible exact Up.refl _) | (with_reducible assumption) | (with_reducible refine Up.alloc ?_ _) | (with_reducible refine Up.drew ?_) | (with_reducible refine Up.drewN ?_ _) | (with_reducible refine Up.setCell ?_ ?_ _) | (with_reducible refine Up.call ?_ (by with_reducible assumption)) | go_size))⟩
  · have d1 : (k == 1) = false := by simpa using h1
    obtain ⟨rfl, rfl, rfl⟩ : 2 = rk ∧ FixM.truncate n = rn ∧ 0 = re := by simpa [wholes, h1] using hS
    clear hS hN hk h1
    go_enter Tryd.func23, Tryd.ntmps23
    go_wp2_with (first
      | (go_at_call 57; ((with_reducible refine (Rfix.truncate_calls _ _).mono ?_); rintro E w5 ⟨rfl, rfl⟩))
      | (go_at_call 55; ((with_reducible refine (real_r _ _).mono ?_); rintro E w3 ⟨rfl, hu3⟩))
      | (go_at_call 19; ((with_reducible refine (one_r 2 (FixM.truncate n) _).mono ?_); rintro E w2 ⟨⟨v, rfl, hv⟩, hu2⟩; have HV := Lib.hid hv; clear hv)))
    go_ret2
    exact ⟨⟨v, rfl, HV.out.of_up (by (repeat' (first | (with_reducible exact Up.refl _) | (with_reducible assumption) | (with_reducible refine Up.alloc ?_ _) | (with_reducible refine Up.drew ?_) | (with_reducible refine Up.drewN ?_ _) | (with_reducible refine Up.setCell ?_ ?_ _) | (with_reducible refine Up.call ?_ (by with_reducible assumption)) | go_size)))⟩, by (repeat' (first | (with_reducible exact Up.refl _) | (with_reducible assumption) | (with_reducible refine Up.alloc ?_ _) | (with_reducible refine Up.drew ?_) | (with_reducible refine Up.drewN ?_ _) | (with_reducible refine Up.setCell ?_ ?_ _) | (with_reducible refine Up.call ?_ (by with_reducible assumption)) | go_size))⟩

set_option maxHeartbeats 1000000 in
theorem unary_6 (k : Int) (x : Bool) (a n : Int) (s : ByteArray) (w : World) (hN : numb k n = true) (rk rn re : Int) (hR : un 6 k n = (rk, rn, re)) : Calls Tryd.prog 23 #[.string ⟨#[115, 113, 114, 116]⟩, .agg #[.int .i64 k, .bool x, .int .i64 a, .int .i64 n, .string s, .pointer none, .pointer none, .pointer none, .int .i64 0, .int .i64 0]] w fun E w' => GivesR w rk rn re E w' ∧ Up w w' := by
  obtain ⟨hk, hn1, hn2⟩ := numb_fits hN
  have hS : curves 6 k n = (rk, rn, re) := by simpa [un, hN] using hR
  clear hR hN hk
  obtain ⟨p, q, hpq⟩ : ∃ p q, asReal k n = (p, q) := ⟨_, _, rfl⟩
  by_cases hq : q = 0
  · subst hq
    have hG : real ((FixM.sqrt p).1, (FixM.sqrt p).2) = (rk, rn, re) := by simpa [curves, hpq] using hS
    have HG := Lib.hid hG
    have HPQ := Lib.hid hpq
    clear hS hG hpq
    go_enter Tryd.func23, Tryd.ntmps23
    go_wp2_with (first
      | (go_at_call 29; ((with_reducible refine (asReal_r k x a n s _ p 0 HPQ.out).mono ?_); rintro E w1 ⟨rfl, hu1⟩))
      | (go_at_call 51; ((with_reducible refine (Rfix.sqrt_calls _ _).mono ?_); rintro E w5 ⟨rfl, rfl⟩))
      | (go_at_call 30; ((with_reducible refine (gives_r _ _ rk rn re HG.out _).mono ?_); rintro E w2 ⟨⟨v, rfl, hv⟩, hu2⟩; have HV := Lib.hid hv; clear hv)))
    go_ret2
    exact ⟨⟨v, rfl, HV.out.of_up (by (repeat' (first | (with_reducible exact Up.refl _) | (with_reducible assumption) | (with_reducible refine Up.alloc ?_ _) | (with_reducible refine Up.drew ?_) | (with_reducible refine Up.drewN ?_ _) | (with_reducible refine Up.setCell ?_ ?_ _) | (with_reducible refine Up.call ?_ (by with_reducible assumption)) | go_size)))⟩, by (repeat' (first | (with_reducible exact Up.refl _) | (with_reducible assumption) | (with_reducible refine Up.alloc ?_ _) | (with_reducible refine Up.drew ?_) | (with_reducible refine Up.drewN ?_ _) | (with_reducible refine Up.setCell ?_ ?_ _) | (with_reducible refine Up.call ?_ (by with_reducible assumption)) | go_size))⟩
  · obtain ⟨rfl, rfl, rfl⟩ : 0 = rk ∧ 0 = rn ∧ q = re := by simpa [curves, hpq, hq] using hS
    have dq : (q == 0) = false := by simpa using hq
    have HQ := Lib.hid hq
    have HPQ := Lib.hid hpq
    clear hS hpq hq
    go_enter Tryd.func23, Tryd.ntmps23
    go_wp2_with (first
      | (go_at_call 29; ((with_reducible refine (asReal_r k x a n s _ p q HPQ.out).mono ?_); rintro E w1 ⟨rfl, hu1⟩)))
    go_ret2
    exact ⟨⟨_, rfl, Or.inr ⟨HQ.out, rfl⟩⟩, by (repeat' (first | (with_reducible exact Up.refl _) | (with_reducible assumption) | (with_reducible refine Up.alloc ?_ _) | (with_reducible refine Up.drew ?_) | (with_reducible refine Up.drewN ?_ _) | (with_reducible refine Up.setCell ?_ ?_ _) | (with_reducible refine Up.call ?_ (by with_reducible assumption)) | go_size))⟩

set_option maxHeartbeats 1000000 in
theorem unary_7 (k : Int) (x : Bool) (a n : Int) (s : ByteArray) (w : World) (hN : numb k n = true) (rk rn re : Int) (hR : un 7 k n = (rk, rn, re)) : Calls Tryd.prog 23 #[.string ⟨#[115, 105, 110]⟩, .agg #[.int .i64 k, .bool x, .int .i64 a, .int .i64 n, .string s, .pointer none, .pointer none, .pointer none, .int .i64 0, .int .i64 0]] w fun E w' => GivesR w rk rn re E w' ∧ Up w w' := by
  obtain ⟨hk, hn1, hn2⟩ := numb_fits hN
  have hS : curves 7 k n = (rk, rn, re) := by simpa [un, hN] using hR
  clear hR hN hk
  obtain ⟨p, q, hpq⟩ : ∃ p q, asReal k n = (p, q) := ⟨_, _, rfl⟩
  by_cases hq : q = 0
  · subst hq
    have hG : real ((TurnM.rot p).1.b, (TurnM.rot p).2) = (rk, rn, re) := by simpa [curves, hpq] using hS
    have HG := Lib.hid hG
    have HPQ := Lib.hid hpq
    clear hS hG hpq
    go_enter Tryd.func23, Tryd.ntmps23
    go_wp2_with (first
      | (go_at_call 29; ((with_reducible refine (asReal_r k x a n s _ p 0 HPQ.out).mono ?_); rintro E w1 ⟨rfl, hu1⟩))
      | (go_at_call 52; ((with_reducible refine (Turn.rrotate_calls _ _).mono ?_); rintro E w5 ⟨rfl, hu5⟩))
      | (go_at_call 30; ((with_reducible refine (gives_r _ _ rk rn re HG.out _).mono ?_); rintro E w2 ⟨⟨v, rfl, hv⟩, hu2⟩; have HV := Lib.hid hv; clear hv)))
    go_ret2
    exact ⟨⟨v, rfl, HV.out.of_up (by (repeat' (first | (with_reducible exact Up.refl _) | (with_reducible assumption) | (with_reducible refine Up.alloc ?_ _) | (with_reducible refine Up.drew ?_) | (with_reducible refine Up.drewN ?_ _) | (with_reducible refine Up.setCell ?_ ?_ _) | (with_reducible refine Up.call ?_ (by with_reducible assumption)) | go_size)))⟩, by (repeat' (first | (with_reducible exact Up.refl _) | (with_reducible assumption) | (with_reducible refine Up.alloc ?_ _) | (with_reducible refine Up.drew ?_) | (with_reducible refine Up.drewN ?_ _) | (with_reducible refine Up.setCell ?_ ?_ _) | (with_reducible refine Up.call ?_ (by with_reducible assumption)) | go_size))⟩
  · obtain ⟨rfl, rfl, rfl⟩ : 0 = rk ∧ 0 = rn ∧ q = re := by simpa [curves, hpq, hq] using hS
    have dq : (q == 0) = false := by simpa using hq
    have HQ := Lib.hid hq
    have HPQ := Lib.hid hpq
    clear hS hpq hq
    go_enter Tryd.func23, Tryd.ntmps23
    go_wp2_with (first
      | (go_at_call 29; ((with_reducible refine (asReal_r k x a n s _ p q HPQ.out).mono ?_); rintro E w1 ⟨rfl, hu1⟩)))
    go_ret2
    exact ⟨⟨_, rfl, Or.inr ⟨HQ.out, rfl⟩⟩, by (repeat' (first | (with_reducible exact Up.refl _) | (with_reducible assumption) | (with_reducible refine Up.alloc ?_ _) | (with_reducible refine Up.drew ?_) | (with_reducible refine Up.drewN ?_ _) | (with_reducible refine Up.setCell ?_ ?_ _) | (with_reducible refine Up.call ?_ (by with_reducible assumption)) | go_size))⟩

set_option maxHeartbeats 1000000 in
theorem unary_8 (k : Int) (x : Bool) (a n : Int) (s : ByteArray) (w : World) (hN : numb k n = true) (rk rn re : Int) (hR : un 8 k n = (rk, rn, re)) : Calls Tryd.prog 23 #[.string ⟨#[99, 111, 115]⟩, .agg #[.int .i64 k, .bool x, .int .i64 a, .int .i64 n, .string s, .pointer none, .pointer none, .pointer none, .int .i64 0, .int .i64 0]] w fun E w' => GivesR w rk rn re E w' ∧ Up w w' := by
  obtain ⟨hk, hn1, hn2⟩ := numb_fits hN
  have hS : curves 8 k n = (rk, rn, re) := by simpa [un, hN] using hR
  clear hR hN hk
  obtain ⟨p, q, hpq⟩ : ∃ p q, asReal k n = (p, q) := ⟨_, _, rfl⟩
  by_cases hq : q = 0
  · subst hq
    have hG : real ((TurnM.rot p).1.a, (TurnM.rot p).2) = (rk, rn, re) := by simpa [curves, hpq] using hS
    have HG := Lib.hid hG
    have HPQ := Lib.hid hpq
    clear hS hG hpq
    go_enter Tryd.func23, Tryd.ntmps23
    go_wp2_with (first
      | (go_at_call 29; ((with_reducible refine (asReal_r k x a n s _ p 0 HPQ.out).mono ?_); rintro E w1 ⟨rfl, hu1⟩))
      | (go_at_call 52; ((with_reducible refine (Turn.rrotate_calls _ _).mono ?_); rintro E w5 ⟨rfl, hu5⟩))
      | (go_at_call 30; ((with_reducible refine (gives_r _ _ rk rn re HG.out _).mono ?_); rintro E w2 ⟨⟨v, rfl, hv⟩, hu2⟩; have HV := Lib.hid hv; clear hv)))
    go_ret2
    exact ⟨⟨v, rfl, HV.out.of_up (by (repeat' (first | (with_reducible exact Up.refl _) | (with_reducible assumption) | (with_reducible refine Up.alloc ?_ _) | (with_reducible refine Up.drew ?_) | (with_reducible refine Up.drewN ?_ _) | (with_reducible refine Up.setCell ?_ ?_ _) | (with_reducible refine Up.call ?_ (by with_reducible assumption)) | go_size)))⟩, by (repeat' (first | (with_reducible exact Up.refl _) | (with_reducible assumption) | (with_reducible refine Up.alloc ?_ _) | (with_reducible refine Up.drew ?_) | (with_reducible refine Up.drewN ?_ _) | (with_reducible refine Up.setCell ?_ ?_ _) | (with_reducible refine Up.call ?_ (by with_reducible assumption)) | go_size))⟩
  · obtain ⟨rfl, rfl, rfl⟩ : 0 = rk ∧ 0 = rn ∧ q = re := by simpa [curves, hpq, hq] using hS
    have dq : (q == 0) = false := by simpa using hq
    have HQ := Lib.hid hq
    have HPQ := Lib.hid hpq
    clear hS hpq hq
    go_enter Tryd.func23, Tryd.ntmps23
    go_wp2_with (first
      | (go_at_call 29; ((with_reducible refine (asReal_r k x a n s _ p q HPQ.out).mono ?_); rintro E w1 ⟨rfl, hu1⟩)))
    go_ret2
    exact ⟨⟨_, rfl, Or.inr ⟨HQ.out, rfl⟩⟩, by (repeat' (first | (with_reducible exact Up.refl _) | (with_reducible assumption) | (with_reducible refine Up.alloc ?_ _) | (with_reducible refine Up.drew ?_) | (with_reducible refine Up.drewN ?_ _) | (with_reducible refine Up.setCell ?_ ?_ _) | (with_reducible refine Up.call ?_ (by with_reducible assumption)) | go_size))⟩

end Go.Proofs.YtakickodehebmaaDoor.Ar