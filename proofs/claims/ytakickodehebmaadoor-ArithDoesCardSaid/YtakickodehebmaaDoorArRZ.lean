/- The reference's Arith: div. The reference's Arith: idiv, mod, bitshift. The reference's Arith: and. The reference's Arith: or. The reference's Arith: xor. The reference's Arith: gt, ge, lt, le. -/
import Derived.Test.YtakickodehebmaaDoorArRD
import Derived.Deep.RegionHeld3
section
namespace Go.Proofs.YtakickodehebmaaDoor.Ar
open Go.ChangeShapes Go.WideShapes Go.ChangeAt Go.RowKit
open Go.Proofs.YtakickodehebmaaDoor.FixM (fits within)
open Go.Proofs.YtakickodehebmaaDoor.ArM
set_option linter.unusedVariables false
set_option linter.unusedSimpArgs false

set_option maxRecDepth 100000 in
set_option maxHeartbeats 4000000 in
theorem arith_13 (k : Int) (x : Bool) (a n : Int) (s : ByteArray) (k' : Int) (x' : Bool) (a' n' : Int) (s' : ByteArray) (g cp : Nat) (w : World) (R : Cs w g #[.int .i64 k, .bool x, .int .i64 a, .int .i64 n, .string s, .pointer none, .pointer none, .pointer none, .int .i64 0, .int .i64 0, .int .i64 k', .bool x', .int .i64 a', .int .i64 n', .string s', .pointer none, .pointer none, .pointer none, .int .i64 0, .int .i64 0]) (hg : g < w.heap.size) (rk rn re : Int) (hR : bin 13 k n k' n' = (rk, rn, re)) :
    Calls Tryd.prog 12 #[.string ⟨#[100, 105, 118]⟩, .slice (some ⟨g, 0, none⟩) 2 cp] w fun E w' => GivesR w rk rn re E w' ∧ Up w w' := by
  have hg1 : g < w.heap.size + 1 := by omega
  have hg2 : g < w.heap.size + 1 + 1 := by omega
  have hgn : ¬ w.heap.size = g := by omega
  have hgn1 : ¬ w.heap.size + 1 = g := by omega
  have c0 := R 0 _ rfl
  have c1 := R 1 _ rfl
  have c2 := R 2 _ rfl
  have c3 := R 3 _ rfl
  have c4 := R 4 _ rfl
  have c5 := R 5 _ rfl
  have c6 := R 6 _ rfl
  have c7 := R 7 _ rfl
  have c8 := R 8 _ rfl
  have c9 := R 9 _ rfl
  have c10 := R 10 _ rfl
  have c11 := R 11 _ rfl
  have c12 := R 12 _ rfl
  have c13 := R 13 _ rfl
  have c14 := R 14 _ rfl
  have c15 := R 15 _ rfl
  have c16 := R 16 _ rfl
  have c17 := R 17 _ rfl
  have c18 := R 18 _ rfl
  have c19 := R 19 _ rfl
  clear R
  cases hN : numb k n
  · obtain ⟨rfl, rfl, rfl⟩ : 0 = rk ∧ 0 = rn ∧ 16 = re := by simpa [bin, hN, tcheck] using hR
    have HN := Lib.hid hN
    clear hN hR
    go_enter Tryd.func12, Tryd.ntmps12
    go_wp2_with (first
      | (go_at_call 15; ((with_reducible refine (isNumber_calls k x a n s _).mono ?_); rw [HN.out]; rintro E w1 ⟨rfl, hu1⟩; have k_w1 := hu1.cells.1; have f_w1 := hu1.cells.2; have z_w1 := hu1.size; (try simp at z_w1); have l0_w1 : w.heap.size < w1.heap.size := (by omega); have l1_w1 : w.heap.size + 1 < w1.heap.size := (by omega))))
    go_ret2
    exact ⟨⟨_, rfl, Or.inr ⟨by decide, rfl⟩⟩, by (repeat' (first | (with_reducible exact Up.refl _) | (with_reducible assumption) | (with_reducible refine Up.alloc ?_ _) | (with_reducible refine Up.drew ?_) | (with_reducible refine Up.drewN ?_ _) | (with_reducible refine Up.setCell ?_ ?_ _) | (with_reducible refine Up.call ?_ (by with_reducible assumption)) | go_size))⟩
  cases hN2 : numb k' n'
  · obtain ⟨rfl, rfl, rfl⟩ : 0 = rk ∧ 0 = rn ∧ 16 = re := by simpa [bin, hN, hN2, tcheck] using hR
    have HN := Lib.hid hN
    have HN2 := Lib.hid hN2
    clear hN hN2 hR
    go_enter Tryd.func12, Tryd.ntmps12
    go_wp2_with (first
      | (go_at_call 15; ((with_reducible refine (isNumber_calls k x a n s _).mono ?_); rw [HN.out]; rintro E w1 ⟨rfl, hu1⟩; have k_w1 := hu1.cells.1; have f_w1 := hu1.cells.2; have z_w1 := hu1.size; (try simp at z_w1); have l0_w1 : w.heap.size < w1.heap.size := (by omega); have l1_w1 : w.heap.size + 1 < w1.heap.size := (by omega)))
      | (go_at_call 15; ((with_reducible refine (isNumber_calls k' x' a' n' s' _).mono ?_); rw [HN2.out]; rintro E w2 ⟨rfl, hu2⟩; have k_w2 := hu2.cells.1; have f_w2 := hu2.cells.2; have z_w2 := hu2.size; (try simp at z_w2); have l0_w2 : w.heap.size < w2.heap.size := (by omega); have l1_w2 : w.heap.size + 1 < w2.heap.size := (by omega))))
    go_ret2
    exact ⟨⟨_, rfl, Or.inr ⟨by decide, rfl⟩⟩, by (repeat' (first | (with_reducible exact Up.refl _) | (with_reducible assumption) | (with_reducible refine Up.alloc ?_ _) | (with_reducible refine Up.drew ?_) | (with_reducible refine Up.drewN ?_ _) | (with_reducible refine Up.setCell ?_ ?_ _) | (with_reducible refine Up.call ?_ (by with_reducible assumption)) | go_size))⟩
  obtain ⟨hk, b1, b2⟩ := numb_fits hN
  obtain ⟨hk', b1', b2'⟩ := numb_fits hN2
  have hS : sums 13 k n k' n' = (rk, rn, re) := by simpa [bin, hN, hN2] using hR
  have HN := Lib.hid hN
  have HN2 := Lib.hid hN2
  clear hR
  clear hN hN2 hk hk'
  rcases Bool.eq_false_or_eq_true (k == 1) with d1 | d1 <;> rcases Bool.eq_false_or_eq_true (k' == 1) with d2 | d2
  all_goals
    obtain ⟨p, q, hp⟩ : ∃ p q, asReal k n = (p, q) := ⟨_, _, rfl⟩
    obtain ⟨p', q', hp'⟩ : ∃ p q, asReal k' n' = (p, q) := ⟨_, _, rfl⟩
    by_cases hq : q = 0
    · subst hq
      by_cases hq' : q' = 0
      · subst hq'
        have hG : real ((FixM.div p p').1, (FixM.div p p').2) = (rk, rn, re) := by rw [← hS]; simp [sums, hp, hp', inexactI]
        have HG := Lib.hid hG
        have HP := Lib.hid hp
        have HP2 := Lib.hid hp'
        clear hS hG hp hp'
        go_enter Tryd.func12, Tryd.ntmps12
        go_wp2_with (first
          | (go_at_call 15; ((with_reducible refine (isNumber_calls k x a n s _).mono ?_); rw [HN.out]; rintro E w1 ⟨rfl, hu1⟩; have k_w1 := hu1.cells.1; have f_w1 := hu1.cells.2; have z_w1 := hu1.size; (try simp at z_w1); have l0_w1 : w.heap.size < w1.heap.size := (by omega); have l1_w1 : w.heap.size + 1 < w1.heap.size := (by omega)))
          | (go_at_call 15; ((with_reducible refine (isNumber_calls k' x' a' n' s' _).mono ?_); rw [HN2.out]; rintro E w2 ⟨rfl, hu2⟩; have k_w2 := hu2.cells.1; have f_w2 := hu2.cells.2; have z_w2 := hu2.size; (try simp at z_w2); have l0_w2 : w.heap.size < w2.heap.size := (by omega); have l1_w2 : w.heap.size + 1 < w2.heap.size := (by omega)))
          | (go_at_call 29; ((with_reducible refine (asReal_r k x a n s _ p 0 HP.out).mono ?_); rintro E w3 ⟨rfl, hu3⟩; have k_w3 := hu3.cells.1; have f_w3 := hu3.cells.2; have z_w3 := hu3.size; (try simp at z_w3); have l0_w3 : w.heap.size < w3.heap.size := (by omega); have l1_w3 : w.heap.size + 1 < w3.heap.size := (by omega)))
          | (go_at_call 29; ((with_reducible refine (asReal_r k' x' a' n' s' _ p' 0 HP2.out).mono ?_); rintro E w4 ⟨rfl, hu4⟩; have k_w4 := hu4.cells.1; have f_w4 := hu4.cells.2; have z_w4 := hu4.size; (try simp at z_w4); have l0_w4 : w.heap.size < w4.heap.size := (by omega); have l1_w4 : w.heap.size + 1 < w4.heap.size := (by omega)))
          | (go_at_call 34; ((with_reducible refine (Rfix.div_calls _ _ _).mono ?_); rintro E w6 ⟨rfl, hu6⟩))
          | (go_at_call 30; ((with_reducible refine (gives_r _ _ rk rn re HG.out _).mono ?_); rintro E w7 ⟨⟨v, rfl, hv⟩, hu7⟩; have HV := Lib.hid hv; clear hv)))
        go_ret2
        exact ⟨⟨v, rfl, HV.out.of_up (by (repeat' (first | (with_reducible exact Up.refl _) | (with_reducible assumption) | (with_reducible refine Up.alloc ?_ _) | (with_reducible refine Up.drew ?_) | (with_reducible refine Up.drewN ?_ _) | (with_reducible refine Up.setCell ?_ ?_ _) | (with_reducible refine Up.call ?_ (by with_reducible assumption)) | go_size)))⟩, by (repeat' (first | (with_reducible exact Up.refl _) | (with_reducible assumption) | (with_reducible refine Up.alloc ?_ _) | (with_reducible refine Up.drew ?_) | (with_reducible refine Up.drewN ?_ _) | (with_reducible refine Up.setCell ?_ ?_ _) | (with_reducible refine Up.call ?_ (by with_reducible assumption)) | go_size))⟩
      · obtain ⟨rfl, rfl, rfl⟩ : 0 = rk ∧ 0 = rn ∧ q' = re := by simpa [sums, hp, hp', hq'] using hS
        have dq : (q' == 0) = false := by simpa using hq'
        have HQ := Lib.hid hq'
        have HP := Lib.hid hp
        have HP2 := Lib.hid hp'
        clear hS hp hp' hq'
        go_enter Tryd.func12, Tryd.ntmps12
        go_wp2_with (first
          | (go_at_call 15; ((with_reducible refine (isNumber_calls k x a n s _).mono ?_); rw [HN.out]; rintro E w1 ⟨rfl, hu1⟩; have k_w1 := hu1.cells.1; have f_w1 := hu1.cells.2; have z_w1 := hu1.size; (try simp at z_w1); have l0_w1 : w.heap.size < w1.heap.size := (by omega); have l1_w1 : w.heap.size + 1 < w1.heap.size := (by omega)))
          | (go_at_call 15; ((with_reducible refine (isNumber_calls k' x' a' n' s' _).mono ?_); rw [HN2.out]; rintro E w2 ⟨rfl, hu2⟩; have k_w2 := hu2.cells.1; have f_w2 := hu2.cells.2; have z_w2 := hu2.size; (try simp at z_w2); have l0_w2 : w.heap.size < w2.heap.size := (by omega); have l1_w2 : w.heap.size + 1 < w2.heap.size := (by omega)))
          | (go_at_call 29; ((with_reducible refine (asReal_r k x a n s _ p 0 HP.out).mono ?_); rintro E w3 ⟨rfl, hu3⟩; have k_w3 := hu3.cells.1; have f_w3 := hu3.cells.2; have z_w3 := hu3.size; (try simp at z_w3); have l0_w3 : w.heap.size < w3.heap.size := (by omega); have l1_w3 : w.heap.size + 1 < w3.heap.size := (by omega)))
          | (go_at_call 29; ((with_reducible refine (asReal_r k' x' a' n' s' _ p' q' HP2.out).mono ?_); rintro E w4 ⟨rfl, hu4⟩; have k_w4 := hu4.cells.1; have f_w4 := hu4.cells.2; have z_w4 := hu4.size; (try simp at z_w4); have l0_w4 : w.heap.size < w4.heap.size := (by omega); have l1_w4 : w.heap.size + 1 < w4.heap.size := (by omega))))
        go_ret2
        exact ⟨⟨_, rfl, Or.inr ⟨HQ.out, rfl⟩⟩, by (repeat' (first | (with_reducible exact Up.refl _) | (with_reducible assumption) | (with_reducible refine Up.alloc ?_ _) | (with_reducible refine Up.drew ?_) | (with_reducible refine Up.drewN ?_ _) | (with_reducible refine Up.setCell ?_ ?_ _) | (with_reducible refine Up.call ?_ (by with_reducible assumption)) | go_size))⟩
    · obtain ⟨rfl, rfl, rfl⟩ : 0 = rk ∧ 0 = rn ∧ q = re := by simpa [sums, hp, hp', hq] using hS
      have dq : (q == 0) = false := by simpa using hq
      have HQ := Lib.hid hq
      have HP := Lib.hid hp
      clear hS hp hp' hq
      go_enter Tryd.func12, Tryd.ntmps12
      go_wp2_with (first
        | (go_at_call 15; ((with_reducible refine (isNumber_calls k x a n s _).mono ?_); rw [HN.out]; rintro E w1 ⟨rfl, hu1⟩; have k_w1 := hu1.cells.1; have f_w1 := hu1.cells.2; have z_w1 := hu1.size; (try simp at z_w1); have l0_w1 : w.heap.size < w1.heap.size := (by omega); have l1_w1 : w.heap.size + 1 < w1.heap.size := (by omega)))
        | (go_at_call 15; ((with_reducible refine (isNumber_calls k' x' a' n' s' _).mono ?_); rw [HN2.out]; rintro E w2 ⟨rfl, hu2⟩; have k_w2 := hu2.cells.1; have f_w2 := hu2.cells.2; have z_w2 := hu2.size; (try simp at z_w2); have l0_w2 : w.heap.size < w2.heap.size := (by omega); have l1_w2 : w.heap.size + 1 < w2.heap.size := (by omega)))
        | (go_at_call 29; ((with_reducible refine (asReal_r k x a n s _ p q HP.out).mono ?_); rintro E w3 ⟨rfl, hu3⟩; have k_w3 := hu3.cells.1; have f_w3 := hu3.cells.2; have z_w3 := hu3.size; (try simp at z_w3); have l0_w3 : w.heap.size < w3.heap.size := (by omega); have l1_w3 : w.heap.size + 1 < w3.heap.size := (by omega))))
      go_ret2
      exact ⟨⟨_, rfl, Or.inr ⟨HQ.out, rfl⟩⟩, by (repeat' (first | (with_reducible exact Up.refl _) | (with_reducible assumption) | (with_reducible refine Up.alloc ?_ _) | (with_reducible refine Up.drew ?_) | (with_reducible refine Up.drewN ?_ _) | (with_reducible refine Up.setCell ?_ ?_ _) | (with_reducible refine Up.call ?_ (by with_reducible assumption)) | go_size))⟩

end Go.Proofs.YtakickodehebmaaDoor.Ar
end

section
namespace Go.Proofs.YtakickodehebmaaDoor.Ar
open Go.ChangeShapes Go.WideShapes Go.ChangeAt Go.RowKit
open Go.Proofs.YtakickodehebmaaDoor.FixM (fits within)
open Go.Proofs.YtakickodehebmaaDoor.ArM
set_option linter.unusedVariables false
set_option linter.unusedSimpArgs false

set_option maxRecDepth 100000 in
set_option maxHeartbeats 4000000 in
theorem arith_14 (k : Int) (x : Bool) (a n : Int) (s : ByteArray) (k' : Int) (x' : Bool) (a' n' : Int) (s' : ByteArray) (g cp : Nat) (w : World) (R : Cs w g #[.int .i64 k, .bool x, .int .i64 a, .int .i64 n, .string s, .pointer none, .pointer none, .pointer none, .int .i64 0, .int .i64 0, .int .i64 k', .bool x', .int .i64 a', .int .i64 n', .string s', .pointer none, .pointer none, .pointer none, .int .i64 0, .int .i64 0]) (hg : g < w.heap.size) (rk rn re : Int) (hR : bin 14 k n k' n' = (rk, rn, re)) :
    Calls Tryd.prog 12 #[.string ⟨#[105, 100, 105, 118]⟩, .slice (some ⟨g, 0, none⟩) 2 cp] w fun E w' => GivesR w rk rn re E w' ∧ Up w w' := by
  have hg1 : g < w.heap.size + 1 := by omega
  have hg2 : g < w.heap.size + 1 + 1 := by omega
  have hgn : ¬ w.heap.size = g := by omega
  have hgn1 : ¬ w.heap.size + 1 = g := by omega
  have c0 := R 0 _ rfl
  have c1 := R 1 _ rfl
  have c2 := R 2 _ rfl
  have c3 := R 3 _ rfl
  have c4 := R 4 _ rfl
  have c5 := R 5 _ rfl
  have c6 := R 6 _ rfl
  have c7 := R 7 _ rfl
  have c8 := R 8 _ rfl
  have c9 := R 9 _ rfl
  have c10 := R 10 _ rfl
  have c11 := R 11 _ rfl
  have c12 := R 12 _ rfl
  have c13 := R 13 _ rfl
  have c14 := R 14 _ rfl
  have c15 := R 15 _ rfl
  have c16 := R 16 _ rfl
  have c17 := R 17 _ rfl
  have c18 := R 18 _ rfl
  have c19 := R 19 _ rfl
  clear R
  cases hI : isI k n
  · obtain ⟨rfl, rfl, rfl⟩ : 0 = rk ∧ 0 = rn ∧ 16 = re := by simpa [bin, hI, tcheck] using hR
    have HI := Lib.hid hI
    clear hI hR
    go_enter Tryd.func12, Tryd.ntmps12
    go_wp2_with (first
      | (go_at_call 21; ((with_reducible refine (isInt_r k x a n s _ _ HI.out).mono ?_); rintro E w1 ⟨rfl, hu1⟩; have k_w1 := hu1.cells.1; have f_w1 := hu1.cells.2; have z_w1 := hu1.size; (try simp at z_w1); have l0_w1 : w.heap.size < w1.heap.size := (by omega); have l1_w1 : w.heap.size + 1 < w1.heap.size := (by omega))))
    go_ret2
    exact ⟨⟨_, rfl, Or.inr ⟨by decide, rfl⟩⟩, by (repeat' (first | (with_reducible exact Up.refl _) | (with_reducible assumption) | (with_reducible refine Up.alloc ?_ _) | (with_reducible refine Up.drew ?_) | (with_reducible refine Up.drewN ?_ _) | (with_reducible refine Up.setCell ?_ ?_ _) | (with_reducible refine Up.call ?_ (by with_reducible assumption)) | go_size))⟩
  cases hI2 : isI k' n'
  · obtain ⟨rfl, rfl, rfl⟩ : 0 = rk ∧ 0 = rn ∧ 16 = re := by simpa [bin, hI, hI2, tcheck] using hR
    have HI := Lib.hid hI
    have HI2 := Lib.hid hI2
    clear hI hI2 hR
    go_enter Tryd.func12, Tryd.ntmps12
    go_wp2_with (first
      | (go_at_call 21; ((with_reducible refine (isInt_r k x a n s _ _ HI.out).mono ?_); rintro E w1 ⟨rfl, hu1⟩; have k_w1 := hu1.cells.1; have f_w1 := hu1.cells.2; have z_w1 := hu1.size; (try simp at z_w1); have l0_w1 : w.heap.size < w1.heap.size := (by omega); have l1_w1 : w.heap.size + 1 < w1.heap.size := (by omega)))
      | (go_at_call 21; ((with_reducible refine (isInt_r k' x' a' n' s' _ _ HI2.out).mono ?_); rintro E w2 ⟨rfl, hu2⟩; have k_w2 := hu2.cells.1; have f_w2 := hu2.cells.2; have z_w2 := hu2.size; (try simp at z_w2); have l0_w2 : w.heap.size < w2.heap.size := (by omega); have l1_w2 : w.heap.size + 1 < w2.heap.size := (by omega))))
    go_ret2
    exact ⟨⟨_, rfl, Or.inr ⟨by decide, rfl⟩⟩, by (repeat' (first | (with_reducible exact Up.refl _) | (with_reducible assumption) | (with_reducible refine Up.alloc ?_ _) | (with_reducible refine Up.drew ?_) | (with_reducible refine Up.drewN ?_ _) | (with_reducible refine Up.setCell ?_ ?_ _) | (with_reducible refine Up.call ?_ (by with_reducible assumption)) | go_size))⟩
  obtain ⟨-, b1, b2⟩ := isI_fits hI
  obtain ⟨-, b1', b2'⟩ := isI_fits hI2
  have hS : quot 14 n n' = (rk, rn, re) := by simpa [bin, hI, hI2] using hR
  have HS := Lib.hid hS
  have HI := Lib.hid hI
  have HI2 := Lib.hid hI2
  clear hR hS hI hI2
  go_enter Tryd.func12, Tryd.ntmps12
  go_wp2_with (first
    | (go_at_call 21; ((with_reducible refine (isInt_r k x a n s _ _ HI.out).mono ?_); rintro E w1 ⟨rfl, hu1⟩; have k_w1 := hu1.cells.1; have f_w1 := hu1.cells.2; have z_w1 := hu1.size; (try simp at z_w1); have l0_w1 : w.heap.size < w1.heap.size := (by omega); have l1_w1 : w.heap.size + 1 < w1.heap.size := (by omega)))
    | (go_at_call 21; ((with_reducible refine (isInt_r k' x' a' n' s' _ _ HI2.out).mono ?_); rintro E w2 ⟨rfl, hu2⟩; have k_w2 := hu2.cells.1; have f_w2 := hu2.cells.2; have z_w2 := hu2.size; (try simp at z_w2); have l0_w2 : w.heap.size < w2.heap.size := (by omega); have l1_w2 : w.heap.size + 1 < w2.heap.size := (by omega)))
    | (go_at_call 26; ((with_reducible refine (integers_14 n n' b1 b2 b1' b2' rk rn re _ HS.out).mono ?_); rintro E w3 ⟨⟨v, rfl, hv⟩, hu3⟩; have HV := Lib.hid hv; clear hv)))
  go_ret2
  exact ⟨⟨v, rfl, HV.out.of_up (by (repeat' (first | (with_reducible exact Up.refl _) | (with_reducible assumption) | (with_reducible refine Up.alloc ?_ _) | (with_reducible refine Up.drew ?_) | (with_reducible refine Up.drewN ?_ _) | (with_reducible refine Up.setCell ?_ ?_ _) | (with_reducible refine Up.call ?_ (by with_reducible assumption)) | go_size)))⟩, by (repeat' (first | (with_reducible exact Up.refl _) | (with_reducible assumption) | (with_reducible refine Up.alloc ?_ _) | (with_reducible refine Up.drew ?_) | (with_reducible refine Up.drewN ?_ _) | (with_reducible refine Up.setCell ?_ ?_ _) | (with_reducible refine Up.call ?_ (by with_reducible assumption)) | go_size))⟩

set_option maxRecDepth 100000 in
set_option maxHeartbeats 4000000 in
theorem arith_15 (k : Int) (x : Bool) (a n : Int) (s : ByteArray) (k' : Int) (x' : Bool) (a' n' : Int) (s' : ByteArray) (g cp : Nat) (w : World) (R : Cs w g #[.int .i64 k, .bool x, .int .i64 a, .int .i64 n, .string s, .pointer none, .pointer none, .pointer none, .int .i64 0, .int .i64 0, .int .i64 k', .bool x', .int .i64 a', .int .i64 n', .string s', .pointer none, .pointer none, .pointer none, .int .i64 0, .int .i64 0]) (hg : g < w.heap.size) (rk rn re : Int) (hR : bin 15 k n k' n' = (rk, rn, re)) :
    Calls Tryd.prog 12 #[.string ⟨#[109, 111, 100]⟩, .slice (some ⟨g, 0, none⟩) 2 cp] w fun E w' => GivesR w rk rn re E w' ∧ Up w w' := by
  have hg1 : g < w.heap.size + 1 := by omega
  have hg2 : g < w.heap.size + 1 + 1 := by omega
  have hgn : ¬ w.heap.size = g := by omega
  have hgn1 : ¬ w.heap.size + 1 = g := by omega
  have c0 := R 0 _ rfl
  have c1 := R 1 _ rfl
  have c2 := R 2 _ rfl
  have c3 := R 3 _ rfl
  have c4 := R 4 _ rfl
  have c5 := R 5 _ rfl
  have c6 := R 6 _ rfl
  have c7 := R 7 _ rfl
  have c8 := R 8 _ rfl
  have c9 := R 9 _ rfl
  have c10 := R 10 _ rfl
  have c11 := R 11 _ rfl
  have c12 := R 12 _ rfl
  have c13 := R 13 _ rfl
  have c14 := R 14 _ rfl
  have c15 := R 15 _ rfl
  have c16 := R 16 _ rfl
  have c17 := R 17 _ rfl
  have c18 := R 18 _ rfl
  have c19 := R 19 _ rfl
  clear R
  cases hI : isI k n
  · obtain ⟨rfl, rfl, rfl⟩ : 0 = rk ∧ 0 = rn ∧ 16 = re := by simpa [bin, hI, tcheck] using hR
    have HI := Lib.hid hI
    clear hI hR
    go_enter Tryd.func12, Tryd.ntmps12
    go_wp2_with (first
      | (go_at_call 21; ((with_reducible refine (isInt_r k x a n s _ _ HI.out).mono ?_); rintro E w1 ⟨rfl, hu1⟩; have k_w1 := hu1.cells.1; have f_w1 := hu1.cells.2; have z_w1 := hu1.size; (try simp at z_w1); have l0_w1 : w.heap.size < w1.heap.size := (by omega); have l1_w1 : w.heap.size + 1 < w1.heap.size := (by omega))))
    go_ret2
    exact ⟨⟨_, rfl, Or.inr ⟨by decide, rfl⟩⟩, by (repeat' (first | (with_reducible exact Up.refl _) | (with_reducible assumption) | (with_reducible refine Up.alloc ?_ _) | (with_reducible refine Up.drew ?_) | (with_reducible refine Up.drewN ?_ _) | (with_reducible refine Up.setCell ?_ ?_ _) | (with_reducible refine Up.call ?_ (by with_reducible assumption)) | go_size))⟩
  cases hI2 : isI k' n'
  · obtain ⟨rfl, rfl, rfl⟩ : 0 = rk ∧ 0 = rn ∧ 16 = re := by simpa [bin, hI, hI2, tcheck] using hR
    have HI := Lib.hid hI
    have HI2 := Lib.hid hI2
    clear hI hI2 hR
    go_enter Tryd.func12, Tryd.ntmps12
    go_wp2_with (first
      | (go_at_call 21; ((with_reducible refine (isInt_r k x a n s _ _ HI.out).mono ?_); rintro E w1 ⟨rfl, hu1⟩; have k_w1 := hu1.cells.1; have f_w1 := hu1.cells.2; have z_w1 := hu1.size; (try simp at z_w1); have l0_w1 : w.heap.size < w1.heap.size := (by omega); have l1_w1 : w.heap.size + 1 < w1.heap.size := (by omega)))
      | (go_at_call 21; ((with_reducible refine (isInt_r k' x' a' n' s' _ _ HI2.out).mono ?_); rintro E w2 ⟨rfl, hu2⟩; have k_w2 := hu2.cells.1; have f_w2 := hu2.cells.2; have z_w2 := hu2.size; (try simp at z_w2); have l0_w2 : w.heap.size < w2.heap.size := (by omega); have l1_w2 : w.heap.size + 1 < w2.heap.size := (by omega))))
    go_ret2
    exact ⟨⟨_, rfl, Or.inr ⟨by decide, rfl⟩⟩, by (repeat' (first | (with_reducible exact Up.refl _) | (with_reducible assumption) | (with_reducible refine Up.alloc ?_ _) | (with_reducible refine Up.drew ?_) | (with_reducible refine Up.drewN ?_ _) | (with_reducible refine Up.setCell ?_ ?_ _) | (with_reducible refine Up.call ?_ (by with_reducible assumption)) | go_size))⟩
  obtain ⟨-, b1, b2⟩ := isI_fits hI
  obtain ⟨-, b1', b2'⟩ := isI_fits hI2
  have hS : quot 15 n n' = (rk, rn, re) := by simpa [bin, hI, hI2] using hR
  have HS := Lib.hid hS
  have HI := Lib.hid hI
  have HI2 := Lib.hid hI2
  clear hR hS hI hI2
  go_enter Tryd.func12, Tryd.ntmps12
  go_wp2_with (first
    | (go_at_call 21; ((with_reducible refine (isInt_r k x a n s _ _ HI.out).mono ?_); rintro E w1 ⟨rfl, hu1⟩; have k_w1 := hu1.cells.1; have f_w1 := hu1.cells.2; have z_w1 := hu1.size; (try simp at z_w1); have l0_w1 : w.heap.size < w1.heap.size := (by omega); have l1_w1 : w.heap.size + 1 < w1.heap.size := (by omega)))
    | (go_at_call 21; ((with_reducible refine (isInt_r k' x' a' n' s' _ _ HI2.out).mono ?_); rintro E w2 ⟨rfl, hu2⟩; have k_w2 := hu2.cells.1; have f_w2 := hu2.cells.2; have z_w2 := hu2.size; (try simp at z_w2); have l0_w2 : w.heap.size < w2.heap.size := (by omega); have l1_w2 : w.heap.size + 1 < w2.heap.size := (by omega)))
    | (go_at_call 26; ((with_reducible refine (integers_15 n n' b1 b2 b1' b2' rk rn re _ HS.out).mono ?_); rintro E w3 ⟨⟨v, rfl, hv⟩, hu3⟩; have HV := Lib.hid hv; clear hv)))
  go_ret2
  exact ⟨⟨v, rfl, HV.out.of_up (by (repeat' (first | (with_reducible exact Up.refl _) | (with_reducible assumption) | (with_reducible refine Up.alloc ?_ _) | (with_reducible refine Up.drew ?_) | (with_reducible refine Up.drewN ?_ _) | (with_reducible refine Up.setCell ?_ ?_ _) | (with_reducible refine Up.call ?_ (by with_reducible assumption)) | go_size)))⟩, by (repeat' (first | (with_reducible exact Up.refl _) | (with_reducible assumption) | (with_reducible refine Up.alloc ?_ _) | (with_reducible refine Up.drew ?_) | (with_reducible refine Up.drewN ?_ _) | (with_reducible refine Up.setCell ?_ ?_ _) | (with_reducible refine Up.call ?_ (by with_reducible assumption)) | go_size))⟩

set_option maxRecDepth 100000 in
set_option maxHeartbeats 4000000 in
theorem arith_19 (k : Int) (x : Bool) (a n : Int) (s : ByteArray) (k' : Int) (x' : Bool) (a' n' : Int) (s' : ByteArray) (g cp : Nat) (w : World) (R : Cs w g #[.int .i64 k, .bool x, .int .i64 a, .int .i64 n, .string s, .pointer none, .pointer none, .pointer none, .int .i64 0, .int .i64 0, .int .i64 k', .bool x', .int .i64 a', .int .i64 n', .string s', .pointer none, .pointer none, .pointer none, .int .i64 0, .int .i64 0]) (hg : g < w.heap.size) (rk rn re : Int) (hR : bin 19 k n k' n' = (rk, rn, re)) :
    Calls Tryd.prog 12 #[.string ⟨#[98, 105, 116, 115, 104, 105, 102, 116]⟩, .slice (some ⟨g, 0, none⟩) 2 cp] w fun E w' => GivesR w rk rn re E w' ∧ Up w w' := by
  have hg1 : g < w.heap.size + 1 := by omega
  have hg2 : g < w.heap.size + 1 + 1 := by omega
  have hgn : ¬ w.heap.size = g := by omega
  have hgn1 : ¬ w.heap.size + 1 = g := by omega
  have c0 := R 0 _ rfl
  have c1 := R 1 _ rfl
  have c2 := R 2 _ rfl
  have c3 := R 3 _ rfl
  have c4 := R 4 _ rfl
  have c5 := R 5 _ rfl
  have c6 := R 6 _ rfl
  have c7 := R 7 _ rfl
  have c8 := R 8 _ rfl
  have c9 := R 9 _ rfl
  have c10 := R 10 _ rfl
  have c11 := R 11 _ rfl
  have c12 := R 12 _ rfl
  have c13 := R 13 _ rfl
  have c14 := R 14 _ rfl
  have c15 := R 15 _ rfl
  have c16 := R 16 _ rfl
  have c17 := R 17 _ rfl
  have c18 := R 18 _ rfl
  have c19 := R 19 _ rfl
  clear R
  cases hI : isI k n
  · obtain ⟨rfl, rfl, rfl⟩ : 0 = rk ∧ 0 = rn ∧ 16 = re := by simpa [bin, hI, tcheck] using hR
    have HI := Lib.hid hI
    clear hI hR
    go_enter Tryd.func12, Tryd.ntmps12
    go_wp2_with (first
      | (go_at_call 21; ((with_reducible refine (isInt_r k x a n s _ _ HI.out).mono ?_); rintro E w1 ⟨rfl, hu1⟩; have k_w1 := hu1.cells.1; have f_w1 := hu1.cells.2; have z_w1 := hu1.size; (try simp at z_w1); have l0_w1 : w.heap.size < w1.heap.size := (by omega); have l1_w1 : w.heap.size + 1 < w1.heap.size := (by omega))))
    go_ret2
    exact ⟨⟨_, rfl, Or.inr ⟨by decide, rfl⟩⟩, by (repeat' (first | (with_reducible exact Up.refl _) | (with_reducible assumption) | (with_reducible refine Up.alloc ?_ _) | (with_reducible refine Up.drew ?_) | (with_reducible refine Up.drewN ?_ _) | (with_reducible refine Up.setCell ?_ ?_ _) | (with_reducible refine Up.call ?_ (by with_reducible assumption)) | go_size))⟩
  cases hI2 : isI k' n'
  · obtain ⟨rfl, rfl, rfl⟩ : 0 = rk ∧ 0 = rn ∧ 16 = re := by simpa [bin, hI, hI2, tcheck] using hR
    have HI := Lib.hid hI
    have HI2 := Lib.hid hI2
    clear hI hI2 hR
    go_enter Tryd.func12, Tryd.ntmps12
    go_wp2_with (first
      | (go_at_call 21; ((with_reducible refine (isInt_r k x a n s _ _ HI.out).mono ?_); rintro E w1 ⟨rfl, hu1⟩; have k_w1 := hu1.cells.1; have f_w1 := hu1.cells.2; have z_w1 := hu1.size; (try simp at z_w1); have l0_w1 : w.heap.size < w1.heap.size := (by omega); have l1_w1 : w.heap.size + 1 < w1.heap.size := (by omega)))
      | (go_at_call 21; ((with_reducible refine (isInt_r k' x' a' n' s' _ _ HI2.out).mono ?_); rintro E w2 ⟨rfl, hu2⟩; have k_w2 := hu2.cells.1; have f_w2 := hu2.cells.2; have z_w2 := hu2.size; (try simp at z_w2); have l0_w2 : w.heap.size < w2.heap.size := (by omega); have l1_w2 : w.heap.size + 1 < w2.heap.size := (by omega))))
    go_ret2
    exact ⟨⟨_, rfl, Or.inr ⟨by decide, rfl⟩⟩, by (repeat' (first | (with_reducible exact Up.refl _) | (with_reducible assumption) | (with_reducible refine Up.alloc ?_ _) | (with_reducible refine Up.drew ?_) | (with_reducible refine Up.drewN ?_ _) | (with_reducible refine Up.setCell ?_ ?_ _) | (with_reducible refine Up.call ?_ (by with_reducible assumption)) | go_size))⟩
  obtain ⟨-, b1, b2⟩ := isI_fits hI
  obtain ⟨-, b1', b2'⟩ := isI_fits hI2
  have hS : (1, shiftI n n', 0) = (rk, rn, re) := by simpa [bin, hI, hI2] using hR
  have HS := Lib.hid hS
  have HI := Lib.hid hI
  have HI2 := Lib.hid hI2
  clear hR hS hI hI2
  go_enter Tryd.func12, Tryd.ntmps12
  go_wp2_with (first
    | (go_at_call 21; ((with_reducible refine (isInt_r k x a n s _ _ HI.out).mono ?_); rintro E w1 ⟨rfl, hu1⟩; have k_w1 := hu1.cells.1; have f_w1 := hu1.cells.2; have z_w1 := hu1.size; (try simp at z_w1); have l0_w1 : w.heap.size < w1.heap.size := (by omega); have l1_w1 : w.heap.size + 1 < w1.heap.size := (by omega)))
    | (go_at_call 21; ((with_reducible refine (isInt_r k' x' a' n' s' _ _ HI2.out).mono ?_); rintro E w2 ⟨rfl, hu2⟩; have k_w2 := hu2.cells.1; have f_w2 := hu2.cells.2; have z_w2 := hu2.size; (try simp at z_w2); have l0_w2 : w.heap.size < w2.heap.size := (by omega); have l1_w2 : w.heap.size + 1 < w2.heap.size := (by omega)))
    | (go_at_call 26; ((with_reducible refine (integers_19 n n' b1 b2 b1' b2' rk rn re _ HS.out).mono ?_); rintro E w3 ⟨⟨v, rfl, hv⟩, hu3⟩; have HV := Lib.hid hv; clear hv)))
  go_ret2
  exact ⟨⟨v, rfl, HV.out.of_up (by (repeat' (first | (with_reducible exact Up.refl _) | (with_reducible assumption) | (with_reducible refine Up.alloc ?_ _) | (with_reducible refine Up.drew ?_) | (with_reducible refine Up.drewN ?_ _) | (with_reducible refine Up.setCell ?_ ?_ _) | (with_reducible refine Up.call ?_ (by with_reducible assumption)) | go_size)))⟩, by (repeat' (first | (with_reducible exact Up.refl _) | (with_reducible assumption) | (with_reducible refine Up.alloc ?_ _) | (with_reducible refine Up.drew ?_) | (with_reducible refine Up.drewN ?_ _) | (with_reducible refine Up.setCell ?_ ?_ _) | (with_reducible refine Up.call ?_ (by with_reducible assumption)) | go_size))⟩

end Go.Proofs.YtakickodehebmaaDoor.Ar
end

section
namespace Go.Proofs.YtakickodehebmaaDoor.Ar
open Go.ChangeShapes Go.WideShapes Go.ChangeAt Go.RowKit
open Go.Proofs.YtakickodehebmaaDoor.FixM (fits within)
open Go.Proofs.YtakickodehebmaaDoor.ArM
set_option linter.unusedVariables false
set_option linter.unusedSimpArgs false

set_option maxRecDepth 100000 in
set_option maxHeartbeats 4000000 in
theorem arith_16 (k : Int) (x : Bool) (a n : Int) (s : ByteArray) (k' : Int) (x' : Bool) (a' n' : Int) (s' : ByteArray) (g cp : Nat) (w : World) (R : Cs w g #[.int .i64 k, .bool x, .int .i64 a, .int .i64 n, .string s, .pointer none, .pointer none, .pointer none, .int .i64 0, .int .i64 0, .int .i64 k', .bool x', .int .i64 a', .int .i64 n', .string s', .pointer none, .pointer none, .pointer none, .int .i64 0, .int .i64 0]) (hg : g < w.heap.size) (rk rn re : Int) (hR : bin 16 k n k' n' = (rk, rn, re)) :
    Calls Tryd.prog 12 #[.string ⟨#[97, 110, 100]⟩, .slice (some ⟨g, 0, none⟩) 2 cp] w fun E w' => GivesR w rk rn re E w' ∧ Up w w' := by
  have hg1 : g < w.heap.size + 1 := by omega
  have hg2 : g < w.heap.size + 1 + 1 := by omega
  have hgn : ¬ w.heap.size = g := by omega
  have hgn1 : ¬ w.heap.size + 1 = g := by omega
  have c0 := R 0 _ rfl
  have c1 := R 1 _ rfl
  have c2 := R 2 _ rfl
  have c3 := R 3 _ rfl
  have c4 := R 4 _ rfl
  have c5 := R 5 _ rfl
  have c6 := R 6 _ rfl
  have c7 := R 7 _ rfl
  have c8 := R 8 _ rfl
  have c9 := R 9 _ rfl
  have c10 := R 10 _ rfl
  have c11 := R 11 _ rfl
  have c12 := R 12 _ rfl
  have c13 := R 13 _ rfl
  have c14 := R 14 _ rfl
  have c15 := R 15 _ rfl
  have c16 := R 16 _ rfl
  have c17 := R 17 _ rfl
  have c18 := R 18 _ rfl
  have c19 := R 19 _ rfl
  clear R
  cases hT : isT k n
  · have HT := Lib.hid hT
    cases hI : isI k n
    · obtain ⟨rfl, rfl, rfl⟩ : 0 = rk ∧ 0 = rn ∧ 16 = re := by simpa [bin, hT, hI, tcheck] using hR
      have HI := Lib.hid hI
      clear hI hR hT
      go_enter Tryd.func12, Tryd.ntmps12
      go_wp2_with (first
        | (go_at_call 18; ((with_reducible refine (isTruth_r k x a n s _ _ HT.out).mono ?_); rintro E w1 ⟨rfl, hu1⟩; have k_w1 := hu1.cells.1; have f_w1 := hu1.cells.2; have z_w1 := hu1.size; (try simp at z_w1); have l0_w1 : w.heap.size < w1.heap.size := (by omega); have l1_w1 : w.heap.size + 1 < w1.heap.size := (by omega)))
        | (go_at_call 21; ((with_reducible refine (isInt_r k x a n s _ _ HI.out).mono ?_); rintro E w3 ⟨rfl, hu3⟩; have k_w3 := hu3.cells.1; have f_w3 := hu3.cells.2; have z_w3 := hu3.size; (try simp at z_w3); have l0_w3 : w.heap.size < w3.heap.size := (by omega); have l1_w3 : w.heap.size + 1 < w3.heap.size := (by omega))))
      go_ret2
      exact ⟨⟨_, rfl, Or.inr ⟨by decide, rfl⟩⟩, by (repeat' (first | (with_reducible exact Up.refl _) | (with_reducible assumption) | (with_reducible refine Up.alloc ?_ _) | (with_reducible refine Up.drew ?_) | (with_reducible refine Up.drewN ?_ _) | (with_reducible refine Up.setCell ?_ ?_ _) | (with_reducible refine Up.call ?_ (by with_reducible assumption)) | go_size))⟩
    cases hI2 : isI k' n'
    · obtain ⟨rfl, rfl, rfl⟩ : 0 = rk ∧ 0 = rn ∧ 16 = re := by simpa [bin, hT, hI, hI2, tcheck] using hR
      have HI := Lib.hid hI
      have HI2 := Lib.hid hI2
      clear hI hI2 hR hT
      go_enter Tryd.func12, Tryd.ntmps12
      go_wp2_with (first
        | (go_at_call 18; ((with_reducible refine (isTruth_r k x a n s _ _ HT.out).mono ?_); rintro E w1 ⟨rfl, hu1⟩; have k_w1 := hu1.cells.1; have f_w1 := hu1.cells.2; have z_w1 := hu1.size; (try simp at z_w1); have l0_w1 : w.heap.size < w1.heap.size := (by omega); have l1_w1 : w.heap.size + 1 < w1.heap.size := (by omega)))
        | (go_at_call 21; ((with_reducible refine (isInt_r k x a n s _ _ HI.out).mono ?_); rintro E w3 ⟨rfl, hu3⟩; have k_w3 := hu3.cells.1; have f_w3 := hu3.cells.2; have z_w3 := hu3.size; (try simp at z_w3); have l0_w3 : w.heap.size < w3.heap.size := (by omega); have l1_w3 : w.heap.size + 1 < w3.heap.size := (by omega)))
        | (go_at_call 21; ((with_reducible refine (isInt_r k' x' a' n' s' _ _ HI2.out).mono ?_); rintro E w4 ⟨rfl, hu4⟩; have k_w4 := hu4.cells.1; have f_w4 := hu4.cells.2; have z_w4 := hu4.size; (try simp at z_w4); have l0_w4 : w.heap.size < w4.heap.size := (by omega); have l1_w4 : w.heap.size + 1 < w4.heap.size := (by omega))))
      go_ret2
      exact ⟨⟨_, rfl, Or.inr ⟨by decide, rfl⟩⟩, by (repeat' (first | (with_reducible exact Up.refl _) | (with_reducible assumption) | (with_reducible refine Up.alloc ?_ _) | (with_reducible refine Up.drew ?_) | (with_reducible refine Up.drewN ?_ _) | (with_reducible refine Up.setCell ?_ ?_ _) | (with_reducible refine Up.call ?_ (by with_reducible assumption)) | go_size))⟩
    obtain ⟨-, b1, b2⟩ := isI_fits hI
    obtain ⟨-, b1', b2'⟩ := isI_fits hI2
    obtain ⟨rfl, rfl, rfl⟩ : 1 = rk ∧ BitM.res 0 n n' = rn ∧ 0 = re := by simpa [bin, hT, hI, hI2] using hR
    have HI := Lib.hid hI
    have HI2 := Lib.hid hI2
    clear hI hI2 hR hT
    go_enter Tryd.func12, Tryd.ntmps12
    go_wp2_with (first
      | (go_at_call 18; ((with_reducible refine (isTruth_r k x a n s _ _ HT.out).mono ?_); rintro E w1 ⟨rfl, hu1⟩; have k_w1 := hu1.cells.1; have f_w1 := hu1.cells.2; have z_w1 := hu1.size; (try simp at z_w1); have l0_w1 : w.heap.size < w1.heap.size := (by omega); have l1_w1 : w.heap.size + 1 < w1.heap.size := (by omega)))
      | (go_at_call 21; ((with_reducible refine (isInt_r k x a n s _ _ HI.out).mono ?_); rintro E w3 ⟨rfl, hu3⟩; have k_w3 := hu3.cells.1; have f_w3 := hu3.cells.2; have z_w3 := hu3.size; (try simp at z_w3); have l0_w3 : w.heap.size < w3.heap.size := (by omega); have l1_w3 : w.heap.size + 1 < w3.heap.size := (by omega)))
      | (go_at_call 21; ((with_reducible refine (isInt_r k' x' a' n' s' _ _ HI2.out).mono ?_); rintro E w4 ⟨rfl, hu4⟩; have k_w4 := hu4.cells.1; have f_w4 := hu4.cells.2; have z_w4 := hu4.size; (try simp at z_w4); have l0_w4 : w.heap.size < w4.heap.size := (by omega); have l1_w4 : w.heap.size + 1 < w4.heap.size := (by omega)))
      | (go_at_call 25; ((with_reducible refine (bitwise_0 n n' b1 b2 b1' b2' _).mono ?_); rintro E w7 ⟨rfl, rfl⟩))
      | (go_at_call 22; ((with_reducible refine (whole_r _ _).mono ?_); rintro E w8 ⟨rfl, hu8⟩))
      | (go_at_call 19; ((with_reducible refine (one_r _ _ _).mono ?_); rintro E w9 ⟨⟨v, rfl, hv⟩, hu9⟩; have HV := Lib.hid hv; clear hv)))
    go_ret2
    exact ⟨⟨v, rfl, HV.out.of_up (by (repeat' (first | (with_reducible exact Up.refl _) | (with_reducible assumption) | (with_reducible refine Up.alloc ?_ _) | (with_reducible refine Up.drew ?_) | (with_reducible refine Up.drewN ?_ _) | (with_reducible refine Up.setCell ?_ ?_ _) | (with_reducible refine Up.call ?_ (by with_reducible assumption)) | go_size)))⟩, by (repeat' (first | (with_reducible exact Up.refl _) | (with_reducible assumption) | (with_reducible refine Up.alloc ?_ _) | (with_reducible refine Up.drew ?_) | (with_reducible refine Up.drewN ?_ _) | (with_reducible refine Up.setCell ?_ ?_ _) | (with_reducible refine Up.call ?_ (by with_reducible assumption)) | go_size))⟩
  cases hT2 : isT k' n'
  · have HT := Lib.hid hT
    have HT2 := Lib.hid hT2
    cases hI : isI k n
    · obtain ⟨rfl, rfl, rfl⟩ : 0 = rk ∧ 0 = rn ∧ 16 = re := by simpa [bin, hT, hT2, hI, tcheck] using hR
      have HI := Lib.hid hI
      clear hI hR hT hT2
      go_enter Tryd.func12, Tryd.ntmps12
      go_wp2_with (first
        | (go_at_call 18; ((with_reducible refine (isTruth_r k x a n s _ _ HT.out).mono ?_); rintro E w1 ⟨rfl, hu1⟩; have k_w1 := hu1.cells.1; have f_w1 := hu1.cells.2; have z_w1 := hu1.size; (try simp at z_w1); have l0_w1 : w.heap.size < w1.heap.size := (by omega); have l1_w1 : w.heap.size + 1 < w1.heap.size := (by omega)))
        | (go_at_call 18; ((with_reducible refine (isTruth_r k' x' a' n' s' _ _ HT2.out).mono ?_); rintro E w2 ⟨rfl, hu2⟩; have k_w2 := hu2.cells.1; have f_w2 := hu2.cells.2; have z_w2 := hu2.size; (try simp at z_w2); have l0_w2 : w.heap.size < w2.heap.size := (by omega); have l1_w2 : w.heap.size + 1 < w2.heap.size := (by omega)))
        | (go_at_call 21; ((with_reducible refine (isInt_r k x a n s _ _ HI.out).mono ?_); rintro E w3 ⟨rfl, hu3⟩; have k_w3 := hu3.cells.1; have f_w3 := hu3.cells.2; have z_w3 := hu3.size; (try simp at z_w3); have l0_w3 : w.heap.size < w3.heap.size := (by omega); have l1_w3 : w.heap.size + 1 < w3.heap.size := (by omega))))
      go_ret2
      exact ⟨⟨_, rfl, Or.inr ⟨by decide, rfl⟩⟩, by (repeat' (first | (with_reducible exact Up.refl _) | (with_reducible assumption) | (with_reducible refine Up.alloc ?_ _) | (with_reducible refine Up.drew ?_) | (with_reducible refine Up.drewN ?_ _) | (with_reducible refine Up.setCell ?_ ?_ _) | (with_reducible refine Up.call ?_ (by with_reducible assumption)) | go_size))⟩
    cases hI2 : isI k' n'
    · obtain ⟨rfl, rfl, rfl⟩ : 0 = rk ∧ 0 = rn ∧ 16 = re := by simpa [bin, hT, hT2, hI, hI2, tcheck] using hR
      have HI := Lib.hid hI
      have HI2 := Lib.hid hI2
      clear hI hI2 hR hT hT2
      go_enter Tryd.func12, Tryd.ntmps12
      go_wp2_with (first
        | (go_at_call 18; ((with_reducible refine (isTruth_r k x a n s _ _ HT.out).mono ?_); rintro E w1 ⟨rfl, hu1⟩; have k_w1 := hu1.cells.1; have f_w1 := hu1.cells.2; have z_w1 := hu1.size; (try simp at z_w1); have l0_w1 : w.heap.size < w1.heap.size := (by omega); have l1_w1 : w.heap.size + 1 < w1.heap.size := (by omega)))
        | (go_at_call 18; ((with_reducible refine (isTruth_r k' x' a' n' s' _ _ HT2.out).mono ?_); rintro E w2 ⟨rfl, hu2⟩; have k_w2 := hu2.cells.1; have f_w2 := hu2.cells.2; have z_w2 := hu2.size; (try simp at z_w2); have l0_w2 : w.heap.size < w2.heap.size := (by omega); have l1_w2 : w.heap.size + 1 < w2.heap.size := (by omega)))
        | (go_at_call 21; ((with_reducible refine (isInt_r k x a n s _ _ HI.out).mono ?_); rintro E w3 ⟨rfl, hu3⟩; have k_w3 := hu3.cells.1; have f_w3 := hu3.cells.2; have z_w3 := hu3.size; (try simp at z_w3); have l0_w3 : w.heap.size < w3.heap.size := (by omega); have l1_w3 : w.heap.size + 1 < w3.heap.size := (by omega)))
        | (go_at_call 21; ((with_reducible refine (isInt_r k' x' a' n' s' _ _ HI2.out).mono ?_); rintro E w4 ⟨rfl, hu4⟩; have k_w4 := hu4.cells.1; have f_w4 := hu4.cells.2; have z_w4 := hu4.size; (try simp at z_w4); have l0_w4 : w.heap.size < w4.heap.size := (by omega); have l1_w4 : w.heap.size + 1 < w4.heap.size := (by omega))))
      go_ret2
      exact ⟨⟨_, rfl, Or.inr ⟨by decide, rfl⟩⟩, by (repeat' (first | (with_reducible exact Up.refl _) | (with_reducible assumption) | (with_reducible refine Up.alloc ?_ _) | (with_reducible refine Up.drew ?_) | (with_reducible refine Up.drewN ?_ _) | (with_reducible refine Up.setCell ?_ ?_ _) | (with_reducible refine Up.call ?_ (by with_reducible assumption)) | go_size))⟩
    obtain ⟨-, b1, b2⟩ := isI_fits hI
    obtain ⟨-, b1', b2'⟩ := isI_fits hI2
    obtain ⟨rfl, rfl, rfl⟩ : 1 = rk ∧ BitM.res 0 n n' = rn ∧ 0 = re := by simpa [bin, hT, hT2, hI, hI2] using hR
    have HI := Lib.hid hI
    have HI2 := Lib.hid hI2
    clear hI hI2 hR hT hT2
    go_enter Tryd.func12, Tryd.ntmps12
    go_wp2_with (first
      | (go_at_call 18; ((with_reducible refine (isTruth_r k x a n s _ _ HT.out).mono ?_); rintro E w1 ⟨rfl, hu1⟩; have k_w1 := hu1.cells.1; have f_w1 := hu1.cells.2; have z_w1 := hu1.size; (try simp at z_w1); have l0_w1 : w.heap.size < w1.heap.size := (by omega); have l1_w1 : w.heap.size + 1 < w1.heap.size := (by omega)))
      | (go_at_call 18; ((with_reducible refine (isTruth_r k' x' a' n' s' _ _ HT2.out).mono ?_); rintro E w2 ⟨rfl, hu2⟩; have k_w2 := hu2.cells.1; have f_w2 := hu2.cells.2; have z_w2 := hu2.size; (try simp at z_w2); have l0_w2 : w.heap.size < w2.heap.size := (by omega); have l1_w2 : w.heap.size + 1 < w2.heap.size := (by omega)))
      | (go_at_call 21; ((with_reducible refine (isInt_r k x a n s _ _ HI.out).mono ?_); rintro E w3 ⟨rfl, hu3⟩; have k_w3 := hu3.cells.1; have f_w3 := hu3.cells.2; have z_w3 := hu3.size; (try simp at z_w3); have l0_w3 : w.heap.size < w3.heap.size := (by omega); have l1_w3 : w.heap.size + 1 < w3.heap.size := (by omega)))
      | (go_at_call 21; ((with_reducible refine (isInt_r k' x' a' n' s' _ _ HI2.out).mono ?_); rintro E w4 ⟨rfl, hu4⟩; have k_w4 := hu4.cells.1; have f_w4 := hu4.cells.2; have z_w4 := hu4.size; (try simp at z_w4); have l0_w4 : w.heap.size < w4.heap.size := (by omega); have l1_w4 : w.heap.size + 1 < w4.heap.size := (by omega)))
      | (go_at_call 25; ((with_reducible refine (bitwise_0 n n' b1 b2 b1' b2' _).mono ?_); rintro E w7 ⟨rfl, rfl⟩))
      | (go_at_call 22; ((with_reducible refine (whole_r _ _).mono ?_); rintro E w8 ⟨rfl, hu8⟩))
      | (go_at_call 19; ((with_reducible refine (one_r _ _ _).mono ?_); rintro E w9 ⟨⟨v, rfl, hv⟩, hu9⟩; have HV := Lib.hid hv; clear hv)))
    go_ret2
    exact ⟨⟨v, rfl, HV.out.of_up (by (repeat' (first | (with_reducible exact Up.refl _) | (with_reducible assumption) | (with_reducible refine Up.alloc ?_ _) | (with_reducible refine Up.drew ?_) | (with_reducible refine Up.drewN ?_ _) | (with_reducible refine Up.setCell ?_ ?_ _) | (with_reducible refine Up.call ?_ (by with_reducible assumption)) | go_size)))⟩, by (repeat' (first | (with_reducible exact Up.refl _) | (with_reducible assumption) | (with_reducible refine Up.alloc ?_ _) | (with_reducible refine Up.drew ?_) | (with_reducible refine Up.drewN ?_ _) | (with_reducible refine Up.setCell ?_ ?_ _) | (with_reducible refine Up.call ?_ (by with_reducible assumption)) | go_size))⟩
  have hz : BitM.res 0 n n' = truthN (BitM.bop 0 (n == 1) (n' == 1)) := by
    obtain ⟨-, h1⟩ := isT_cases hT
    obtain ⟨-, h2⟩ := isT_cases hT2
    rcases h1 with rfl | rfl <;> rcases h2 with rfl | rfl <;> decide
  obtain ⟨rfl, rfl, rfl⟩ : 3 = rk ∧ truthN (BitM.bop 0 (n == 1) (n' == 1)) = rn ∧ 0 = re := by rw [← hz]; simpa [bin, hT, hT2] using hR
  have HT := Lib.hid hT
  have HT2 := Lib.hid hT2
  clear hT hT2 hR hz
  go_enter Tryd.func12, Tryd.ntmps12
  go_wp2_with (first
    | (go_at_call 18; ((with_reducible refine (isTruth_r k x a n s _ _ HT.out).mono ?_); rintro E w1 ⟨rfl, hu1⟩; have k_w1 := hu1.cells.1; have f_w1 := hu1.cells.2; have z_w1 := hu1.size; (try simp at z_w1); have l0_w1 : w.heap.size < w1.heap.size := (by omega); have l1_w1 : w.heap.size + 1 < w1.heap.size := (by omega)))
    | (go_at_call 18; ((with_reducible refine (isTruth_r k' x' a' n' s' _ _ HT2.out).mono ?_); rintro E w2 ⟨rfl, hu2⟩; have k_w2 := hu2.cells.1; have f_w2 := hu2.cells.2; have z_w2 := hu2.size; (try simp at z_w2); have l0_w2 : w.heap.size < w2.heap.size := (by omega); have l1_w2 : w.heap.size + 1 < w2.heap.size := (by omega)))
    | (go_at_call 24; ((with_reducible refine (logic_0 _ _ _).mono ?_); rintro E w5 ⟨rfl, rfl⟩))
    | (go_at_call 20; ((with_reducible refine (truth_r _ _).mono ?_); rintro E w6 ⟨rfl, hu6⟩))
    | (go_at_call 19; ((with_reducible refine (one_r _ _ _).mono ?_); rintro E w9 ⟨⟨v, rfl, hv⟩, hu9⟩; have HV := Lib.hid hv; clear hv)))
  go_ret2
  exact ⟨⟨v, rfl, HV.out.of_up (by (repeat' (first | (with_reducible exact Up.refl _) | (with_reducible assumption) | (with_reducible refine Up.alloc ?_ _) | (with_reducible refine Up.drew ?_) | (with_reducible refine Up.drewN ?_ _) | (with_reducible refine Up.setCell ?_ ?_ _) | (with_reducible refine Up.call ?_ (by with_reducible assumption)) | go_size)))⟩, by (repeat' (first | (with_reducible exact Up.refl _) | (with_reducible assumption) | (with_reducible refine Up.alloc ?_ _) | (with_reducible refine Up.drew ?_) | (with_reducible refine Up.drewN ?_ _) | (with_reducible refine Up.setCell ?_ ?_ _) | (with_reducible refine Up.call ?_ (by with_reducible assumption)) | go_size))⟩

end Go.Proofs.YtakickodehebmaaDoor.Ar
end

section
namespace Go.Proofs.YtakickodehebmaaDoor.Ar
open Go.ChangeShapes Go.WideShapes Go.ChangeAt Go.RowKit
open Go.Proofs.YtakickodehebmaaDoor.FixM (fits within)
open Go.Proofs.YtakickodehebmaaDoor.ArM
set_option linter.unusedVariables false
set_option linter.unusedSimpArgs false

set_option maxRecDepth 100000 in
set_option maxHeartbeats 4000000 in
theorem arith_17 (k : Int) (x : Bool) (a n : Int) (s : ByteArray) (k' : Int) (x' : Bool) (a' n' : Int) (s' : ByteArray) (g cp : Nat) (w : World) (R : Cs w g #[.int .i64 k, .bool x, .int .i64 a, .int .i64 n, .string s, .pointer none, .pointer none, .pointer none, .int .i64 0, .int .i64 0, .int .i64 k', .bool x', .int .i64 a', .int .i64 n', .string s', .pointer none, .pointer none, .pointer none, .int .i64 0, .int .i64 0]) (hg : g < w.heap.size) (rk rn re : Int) (hR : bin 17 k n k' n' = (rk, rn, re)) :
    Calls Tryd.prog 12 #[.string ⟨#[111, 114]⟩, .slice (some ⟨g, 0, none⟩) 2 cp] w fun E w' => GivesR w rk rn re E w' ∧ Up w w' := by
  have hg1 : g < w.heap.size + 1 := by omega
  have hg2 : g < w.heap.size + 1 + 1 := by omega
  have hgn : ¬ w.heap.size = g := by omega
  have hgn1 : ¬ w.heap.size + 1 = g := by omega
  have c0 := R 0 _ rfl
  have c1 := R 1 _ rfl
  have c2 := R 2 _ rfl
  have c3 := R 3 _ rfl
  have c4 := R 4 _ rfl
  have c5 := R 5 _ rfl
  have c6 := R 6 _ rfl
  have c7 := R 7 _ rfl
  have c8 := R 8 _ rfl
  have c9 := R 9 _ rfl
  have c10 := R 10 _ rfl
  have c11 := R 11 _ rfl
  have c12 := R 12 _ rfl
  have c13 := R 13 _ rfl
  have c14 := R 14 _ rfl
  have c15 := R 15 _ rfl
  have c16 := R 16 _ rfl
  have c17 := R 17 _ rfl
  have c18 := R 18 _ rfl
  have c19 := R 19 _ rfl
  clear R
  cases hT : isT k n
  · have HT := Lib.hid hT
    cases hI : isI k n
    · obtain ⟨rfl, rfl, rfl⟩ : 0 = rk ∧ 0 = rn ∧ 16 = re := by simpa [bin, hT, hI, tcheck] using hR
      have HI := Lib.hid hI
      clear hI hR hT
      go_enter Tryd.func12, Tryd.ntmps12
      go_wp2_with (first
        | (go_at_call 18; ((with_reducible refine (isTruth_r k x a n s _ _ HT.out).mono ?_); rintro E w1 ⟨rfl, hu1⟩; have k_w1 := hu1.cells.1; have f_w1 := hu1.cells.2; have z_w1 := hu1.size; (try simp at z_w1); have l0_w1 : w.heap.size < w1.heap.size := (by omega); have l1_w1 : w.heap.size + 1 < w1.heap.size := (by omega)))
        | (go_at_call 21; ((with_reducible refine (isInt_r k x a n s _ _ HI.out).mono ?_); rintro E w3 ⟨rfl, hu3⟩; have k_w3 := hu3.cells.1; have f_w3 := hu3.cells.2; have z_w3 := hu3.size; (try simp at z_w3); have l0_w3 : w.heap.size < w3.heap.size := (by omega); have l1_w3 : w.heap.size + 1 < w3.heap.size := (by omega))))
      go_ret2
      exact ⟨⟨_, rfl, Or.inr ⟨by decide, rfl⟩⟩, by (repeat' (first | (with_reducible exact Up.refl _) | (with_reducible assumption) | (with_reducible refine Up.alloc ?_ _) | (with_reducible refine Up.drew ?_) | (with_reducible refine Up.drewN ?_ _) | (with_reducible refine Up.setCell ?_ ?_ _) | (with_reducible refine Up.call ?_ (by with_reducible assumption)) | go_size))⟩
    cases hI2 : isI k' n'
    · obtain ⟨rfl, rfl, rfl⟩ : 0 = rk ∧ 0 = rn ∧ 16 = re := by simpa [bin, hT, hI, hI2, tcheck] using hR
      have HI := Lib.hid hI
      have HI2 := Lib.hid hI2
      clear hI hI2 hR hT
      go_enter Tryd.func12, Tryd.ntmps12
      go_wp2_with (first
        | (go_at_call 18; ((with_reducible refine (isTruth_r k x a n s _ _ HT.out).mono ?_); rintro E w1 ⟨rfl, hu1⟩; have k_w1 := hu1.cells.1; have f_w1 := hu1.cells.2; have z_w1 := hu1.size; (try simp at z_w1); have l0_w1 : w.heap.size < w1.heap.size := (by omega); have l1_w1 : w.heap.size + 1 < w1.heap.size := (by omega)))
        | (go_at_call 21; ((with_reducible refine (isInt_r k x a n s _ _ HI.out).mono ?_); rintro E w3 ⟨rfl, hu3⟩; have k_w3 := hu3.cells.1; have f_w3 := hu3.cells.2; have z_w3 := hu3.size; (try simp at z_w3); have l0_w3 : w.heap.size < w3.heap.size := (by omega); have l1_w3 : w.heap.size + 1 < w3.heap.size := (by omega)))
        | (go_at_call 21; ((with_reducible refine (isInt_r k' x' a' n' s' _ _ HI2.out).mono ?_); rintro E w4 ⟨rfl, hu4⟩; have k_w4 := hu4.cells.1; have f_w4 := hu4.cells.2; have z_w4 := hu4.size; (try simp at z_w4); have l0_w4 : w.heap.size < w4.heap.size := (by omega); have l1_w4 : w.heap.size + 1 < w4.heap.size := (by omega))))
      go_ret2
      exact ⟨⟨_, rfl, Or.inr ⟨by decide, rfl⟩⟩, by (repeat' (first | (with_reducible exact Up.refl _) | (with_reducible assumption) | (with_reducible refine Up.alloc ?_ _) | (with_reducible refine Up.drew ?_) | (with_reducible refine Up.drewN ?_ _) | (with_reducible refine Up.setCell ?_ ?_ _) | (with_reducible refine Up.call ?_ (by with_reducible assumption)) | go_size))⟩
    obtain ⟨-, b1, b2⟩ := isI_fits hI
    obtain ⟨-, b1', b2'⟩ := isI_fits hI2
    obtain ⟨rfl, rfl, rfl⟩ : 1 = rk ∧ BitM.res 1 n n' = rn ∧ 0 = re := by simpa [bin, hT, hI, hI2] using hR
    have HI := Lib.hid hI
    have HI2 := Lib.hid hI2
    clear hI hI2 hR hT
    go_enter Tryd.func12, Tryd.ntmps12
    go_wp2_with (first
      | (go_at_call 18; ((with_reducible refine (isTruth_r k x a n s _ _ HT.out).mono ?_); rintro E w1 ⟨rfl, hu1⟩; have k_w1 := hu1.cells.1; have f_w1 := hu1.cells.2; have z_w1 := hu1.size; (try simp at z_w1); have l0_w1 : w.heap.size < w1.heap.size := (by omega); have l1_w1 : w.heap.size + 1 < w1.heap.size := (by omega)))
      | (go_at_call 21; ((with_reducible refine (isInt_r k x a n s _ _ HI.out).mono ?_); rintro E w3 ⟨rfl, hu3⟩; have k_w3 := hu3.cells.1; have f_w3 := hu3.cells.2; have z_w3 := hu3.size; (try simp at z_w3); have l0_w3 : w.heap.size < w3.heap.size := (by omega); have l1_w3 : w.heap.size + 1 < w3.heap.size := (by omega)))
      | (go_at_call 21; ((with_reducible refine (isInt_r k' x' a' n' s' _ _ HI2.out).mono ?_); rintro E w4 ⟨rfl, hu4⟩; have k_w4 := hu4.cells.1; have f_w4 := hu4.cells.2; have z_w4 := hu4.size; (try simp at z_w4); have l0_w4 : w.heap.size < w4.heap.size := (by omega); have l1_w4 : w.heap.size + 1 < w4.heap.size := (by omega)))
      | (go_at_call 25; ((with_reducible refine (bitwise_1 n n' b1 b2 b1' b2' _).mono ?_); rintro E w7 ⟨rfl, rfl⟩))
      | (go_at_call 22; ((with_reducible refine (whole_r _ _).mono ?_); rintro E w8 ⟨rfl, hu8⟩))
      | (go_at_call 19; ((with_reducible refine (one_r _ _ _).mono ?_); rintro E w9 ⟨⟨v, rfl, hv⟩, hu9⟩; have HV := Lib.hid hv; clear hv)))
    go_ret2
    exact ⟨⟨v, rfl, HV.out.of_up (by (repeat' (first | (with_reducible exact Up.refl _) | (with_reducible assumption) | (with_reducible refine Up.alloc ?_ _) | (with_reducible refine Up.drew ?_) | (with_reducible refine Up.drewN ?_ _) | (with_reducible refine Up.setCell ?_ ?_ _) | (with_reducible refine Up.call ?_ (by with_reducible assumption)) | go_size)))⟩, by (repeat' (first | (with_reducible exact Up.refl _) | (with_reducible assumption) | (with_reducible refine Up.alloc ?_ _) | (with_reducible refine Up.drew ?_) | (with_reducible refine Up.drewN ?_ _) | (with_reducible refine Up.setCell ?_ ?_ _) | (with_reducible refine Up.call ?_ (by with_reducible assumption)) | go_size))⟩
  cases hT2 : isT k' n'
  · have HT := Lib.hid hT
    have HT2 := Lib.hid hT2
    cases hI : isI k n
    · obtain ⟨rfl, rfl, rfl⟩ : 0 = rk ∧ 0 = rn ∧ 16 = re := by simpa [bin, hT, hT2, hI, tcheck] using hR
      have HI := Lib.hid hI
      clear hI hR hT hT2
      go_enter Tryd.func12, Tryd.ntmps12
      go_wp2_with (first
        | (go_at_call 18; ((with_reducible refine (isTruth_r k x a n s _ _ HT.out).mono ?_); rintro E w1 ⟨rfl, hu1⟩; have k_w1 := hu1.cells.1; have f_w1 := hu1.cells.2; have z_w1 := hu1.size; (try simp at z_w1); have l0_w1 : w.heap.size < w1.heap.size := (by omega); have l1_w1 : w.heap.size + 1 < w1.heap.size := (by omega)))
        | (go_at_call 18; ((with_reducible refine (isTruth_r k' x' a' n' s' _ _ HT2.out).mono ?_); rintro E w2 ⟨rfl, hu2⟩; have k_w2 := hu2.cells.1; have f_w2 := hu2.cells.2; have z_w2 := hu2.size; (try simp at z_w2); have l0_w2 : w.heap.size < w2.heap.size := (by omega); have l1_w2 : w.heap.size + 1 < w2.heap.size := (by omega)))
        | (go_at_call 21; ((with_reducible refine (isInt_r k x a n s _ _ HI.out).mono ?_); rintro E w3 ⟨rfl, hu3⟩; have k_w3 := hu3.cells.1; have f_w3 := hu3.cells.2; have z_w3 := hu3.size; (try simp at z_w3); have l0_w3 : w.heap.size < w3.heap.size := (by omega); have l1_w3 : w.heap.size + 1 < w3.heap.size := (by omega))))
      go_ret2
      exact ⟨⟨_, rfl, Or.inr ⟨by decide, rfl⟩⟩, by (repeat' (first | (with_reducible exact Up.refl _) | (with_reducible assumption) | (with_reducible refine Up.alloc ?_ _) | (with_reducible refine Up.drew ?_) | (with_reducible refine Up.drewN ?_ _) | (with_reducible refine Up.setCell ?_ ?_ _) | (with_reducible refine Up.call ?_ (by with_reducible assumption)) | go_size))⟩
    cases hI2 : isI k' n'
    · obtain ⟨rfl, rfl, rfl⟩ : 0 = rk ∧ 0 = rn ∧ 16 = re := by simpa [bin, hT, hT2, hI, hI2, tcheck] using hR
      have HI := Lib.hid hI
      have HI2 := Lib.hid hI2
      clear hI hI2 hR hT hT2
      go_enter Tryd.func12, Tryd.ntmps12
      go_wp2_with (first
        | (go_at_call 18; ((with_reducible refine (isTruth_r k x a n s _ _ HT.out).mono ?_); rintro E w1 ⟨rfl, hu1⟩; have k_w1 := hu1.cells.1; have f_w1 := hu1.cells.2; have z_w1 := hu1.size; (try simp at z_w1); have l0_w1 : w.heap.size < w1.heap.size := (by omega); have l1_w1 : w.heap.size + 1 < w1.heap.size := (by omega)))
        | (go_at_call 18; ((with_reducible refine (isTruth_r k' x' a' n' s' _ _ HT2.out).mono ?_); rintro E w2 ⟨rfl, hu2⟩; have k_w2 := hu2.cells.1; have f_w2 := hu2.cells.2; have z_w2 := hu2.size; (try simp at z_w2); have l0_w2 : w.heap.size < w2.heap.size := (by omega); have l1_w2 : w.heap.size + 1 < w2.heap.size := (by omega)))
        | (go_at_call 21; ((with_reducible refine (isInt_r k x a n s _ _ HI.out).mono ?_); rintro E w3 ⟨rfl, hu3⟩; have k_w3 := hu3.cells.1; have f_w3 := hu3.cells.2; have z_w3 := hu3.size; (try simp at z_w3); have l0_w3 : w.heap.size < w3.heap.size := (by omega); have l1_w3 : w.heap.size + 1 < w3.heap.size := (by omega)))
        | (go_at_call 21; ((with_reducible refine (isInt_r k' x' a' n' s' _ _ HI2.out).mono ?_); rintro E w4 ⟨rfl, hu4⟩; have k_w4 := hu4.cells.1; have f_w4 := hu4.cells.2; have z_w4 := hu4.size; (try simp at z_w4); have l0_w4 : w.heap.size < w4.heap.size := (by omega); have l1_w4 : w.heap.size + 1 < w4.heap.size := (by omega))))
      go_ret2
      exact ⟨⟨_, rfl, Or.inr ⟨by decide, rfl⟩⟩, by (repeat' (first | (with_reducible exact Up.refl _) | (with_reducible assumption) | (with_reducible refine Up.alloc ?_ _) | (with_reducible refine Up.drew ?_) | (with_reducible refine Up.drewN ?_ _) | (with_reducible refine Up.setCell ?_ ?_ _) | (with_reducible refine Up.call ?_ (by with_reducible assumption)) | go_size))⟩
    obtain ⟨-, b1, b2⟩ := isI_fits hI
    obtain ⟨-, b1', b2'⟩ := isI_fits hI2
    obtain ⟨rfl, rfl, rfl⟩ : 1 = rk ∧ BitM.res 1 n n' = rn ∧ 0 = re := by simpa [bin, hT, hT2, hI, hI2] using hR
    have HI := Lib.hid hI
    have HI2 := Lib.hid hI2
    clear hI hI2 hR hT hT2
    go_enter Tryd.func12, Tryd.ntmps12
    go_wp2_with (first
      | (go_at_call 18; ((with_reducible refine (isTruth_r k x a n s _ _ HT.out).mono ?_); rintro E w1 ⟨rfl, hu1⟩; have k_w1 := hu1.cells.1; have f_w1 := hu1.cells.2; have z_w1 := hu1.size; (try simp at z_w1); have l0_w1 : w.heap.size < w1.heap.size := (by omega); have l1_w1 : w.heap.size + 1 < w1.heap.size := (by omega)))
      | (go_at_call 18; ((with_reducible refine (isTruth_r k' x' a' n' s' _ _ HT2.out).mono ?_); rintro E w2 ⟨rfl, hu2⟩; have k_w2 := hu2.cells.1; have f_w2 := hu2.cells.2; have z_w2 := hu2.size; (try simp at z_w2); have l0_w2 : w.heap.size < w2.heap.size := (by omega); have l1_w2 : w.heap.size + 1 < w2.heap.size := (by omega)))
      | (go_at_call 21; ((with_reducible refine (isInt_r k x a n s _ _ HI.out).mono ?_); rintro E w3 ⟨rfl, hu3⟩; have k_w3 := hu3.cells.1; have f_w3 := hu3.cells.2; have z_w3 := hu3.size; (try simp at z_w3); have l0_w3 : w.heap.size < w3.heap.size := (by omega); have l1_w3 : w.heap.size + 1 < w3.heap.size := (by omega)))
      | (go_at_call 21; ((with_reducible refine (isInt_r k' x' a' n' s' _ _ HI2.out).mono ?_); rintro E w4 ⟨rfl, hu4⟩; have k_w4 := hu4.cells.1; have f_w4 := hu4.cells.2; have z_w4 := hu4.size; (try simp at z_w4); have l0_w4 : w.heap.size < w4.heap.size := (by omega); have l1_w4 : w.heap.size + 1 < w4.heap.size := (by omega)))
      | (go_at_call 25; ((with_reducible refine (bitwise_1 n n' b1 b2 b1' b2' _).mono ?_); rintro E w7 ⟨rfl, rfl⟩))
      | (go_at_call 22; ((with_reducible refine (whole_r _ _).mono ?_); rintro E w8 ⟨rfl, hu8⟩))
      | (go_at_call 19; ((with_reducible refine (one_r _ _ _).mono ?_); rintro E w9 ⟨⟨v, rfl, hv⟩, hu9⟩; have HV := Lib.hid hv; clear hv)))
    go_ret2
    exact ⟨⟨v, rfl, HV.out.of_up (by (repeat' (first | (with_reducible exact Up.refl _) | (with_reducible assumption) | (with_reducible refine Up.alloc ?_ _) | (with_reducible refine Up.drew ?_) | (with_reducible refine Up.drewN ?_ _) | (with_reducible refine Up.setCell ?_ ?_ _) | (with_reducible refine Up.call ?_ (by with_reducible assumption)) | go_size)))⟩, by (repeat' (first | (with_reducible exact Up.refl _) | (with_reducible assumption) | (with_reducible refine Up.alloc ?_ _) | (with_reducible refine Up.drew ?_) | (with_reducible refine Up.drewN ?_ _) | (with_reducible refine Up.setCell ?_ ?_ _) | (with_reducible refine Up.call ?_ (by with_reducible assumption)) | go_size))⟩
  have hz : BitM.res 1 n n' = truthN (BitM.bop 1 (n == 1) (n' == 1)) := by
    obtain ⟨-, h1⟩ := isT_cases hT
    obtain ⟨-, h2⟩ := isT_cases hT2
    rcases h1 with rfl | rfl <;> rcases h2 with rfl | rfl <;> decide
  obtain ⟨rfl, rfl, rfl⟩ : 3 = rk ∧ truthN (BitM.bop 1 (n == 1) (n' == 1)) = rn ∧ 0 = re := by rw [← hz]; simpa [bin, hT, hT2] using hR
  have HT := Lib.hid hT
  have HT2 := Lib.hid hT2
  clear hT hT2 hR hz
  go_enter Tryd.func12, Tryd.ntmps12
  go_wp2_with (first
    | (go_at_call 18; ((with_reducible refine (isTruth_r k x a n s _ _ HT.out).mono ?_); rintro E w1 ⟨rfl, hu1⟩; have k_w1 := hu1.cells.1; have f_w1 := hu1.cells.2; have z_w1 := hu1.size; (try simp at z_w1); have l0_w1 : w.heap.size < w1.heap.size := (by omega); have l1_w1 : w.heap.size + 1 < w1.heap.size := (by omega)))
    | (go_at_call 18; ((with_reducible refine (isTruth_r k' x' a' n' s' _ _ HT2.out).mono ?_); rintro E w2 ⟨rfl, hu2⟩; have k_w2 := hu2.cells.1; have f_w2 := hu2.cells.2; have z_w2 := hu2.size; (try simp at z_w2); have l0_w2 : w.heap.size < w2.heap.size := (by omega); have l1_w2 : w.heap.size + 1 < w2.heap.size := (by omega)))
    | (go_at_call 24; ((with_reducible refine (logic_1 _ _ _).mono ?_); rintro E w5 ⟨rfl, rfl⟩))
    | (go_at_call 20; ((with_reducible refine (truth_r _ _).mono ?_); rintro E w6 ⟨rfl, hu6⟩))
    | (go_at_call 19; ((with_reducible refine (one_r _ _ _).mono ?_); rintro E w9 ⟨⟨v, rfl, hv⟩, hu9⟩; have HV := Lib.hid hv; clear hv)))
  go_ret2
  exact ⟨⟨v, rfl, HV.out.of_up (by (repeat' (first | (with_reducible exact Up.refl _) | (with_reducible assumption) | (with_reducible refine Up.alloc ?_ _) | (with_reducible refine Up.drew ?_) | (with_reducible refine Up.drewN ?_ _) | (with_reducible refine Up.setCell ?_ ?_ _) | (with_reducible refine Up.call ?_ (by with_reducible assumption)) | go_size)))⟩, by (repeat' (first | (with_reducible exact Up.refl _) | (with_reducible assumption) | (with_reducible refine Up.alloc ?_ _) | (with_reducible refine Up.drew ?_) | (with_reducible refine Up.drewN ?_ _) | (with_reducible refine Up.setCell ?_ ?_ _) | (with_reducible refine Up.call ?_ (by with_reducible assumption)) | go_size))⟩

end Go.Proofs.YtakickodehebmaaDoor.Ar
end

section
namespace Go.Proofs.YtakickodehebmaaDoor.Ar
open Go.ChangeShapes Go.WideShapes Go.ChangeAt Go.RowKit
open Go.Proofs.YtakickodehebmaaDoor.FixM (fits within)
open Go.Proofs.YtakickodehebmaaDoor.ArM
set_option linter.unusedVariables false
set_option linter.unusedSimpArgs false

set_option maxRecDepth 100000 in
set_option maxHeartbeats 4000000 in
theorem arith_18 (k : Int) (x : Bool) (a n : Int) (s : ByteArray) (k' : Int) (x' : Bool) (a' n' : Int) (s' : ByteArray) (g cp : Nat) (w : World) (R : Cs w g #[.int .i64 k, .bool x, .int .i64 a, .int .i64 n, .string s, .pointer none, .pointer none, .pointer none, .int .i64 0, .int .i64 0, .int .i64 k', .bool x', .int .i64 a', .int .i64 n', .string s', .pointer none, .pointer none, .pointer none, .int .i64 0, .int .i64 0]) (hg : g < w.heap.size) (rk rn re : Int) (hR : bin 18 k n k' n' = (rk, rn, re)) :
    Calls Tryd.prog 12 #[.string ⟨#[120, 111, 114]⟩, .slice (some ⟨g, 0, none⟩) 2 cp] w fun E w' => GivesR w rk rn re E w' ∧ Up w w' := by
  have hg1 : g < w.heap.size + 1 := by omega
  have hg2 : g < w.heap.size + 1 + 1 := by omega
  have hgn : ¬ w.heap.size = g := by omega
  have hgn1 : ¬ w.heap.size + 1 = g := by omega
  have c0 := R 0 _ rfl
  have c1 := R 1 _ rfl
  have c2 := R 2 _ rfl
  have c3 := R 3 _ rfl
  have c4 := R 4 _ rfl
  have c5 := R 5 _ rfl
  have c6 := R 6 _ rfl
  have c7 := R 7 _ rfl
  have c8 := R 8 _ rfl
  have c9 := R 9 _ rfl
  have c10 := R 10 _ rfl
  have c11 := R 11 _ rfl
  have c12 := R 12 _ rfl
  have c13 := R 13 _ rfl
  have c14 := R 14 _ rfl
  have c15 := R 15 _ rfl
  have c16 := R 16 _ rfl
  have c17 := R 17 _ rfl
  have c18 := R 18 _ rfl
  have c19 := R 19 _ rfl
  clear R
  cases hT : isT k n
  · have HT := Lib.hid hT
    cases hI : isI k n
    · obtain ⟨rfl, rfl, rfl⟩ : 0 = rk ∧ 0 = rn ∧ 16 = re := by simpa [bin, hT, hI, tcheck] using hR
      have HI := Lib.hid hI
      clear hI hR hT
      go_enter Tryd.func12, Tryd.ntmps12
      go_wp2_with (first
        | (go_at_call 18; ((with_reducible refine (isTruth_r k x a n s _ _ HT.out).mono ?_); rintro E w1 ⟨rfl, hu1⟩; have k_w1 := hu1.cells.1; have f_w1 := hu1.cells.2; have z_w1 := hu1.size; (try simp at z_w1); have l0_w1 : w.heap.size < w1.heap.size := (by omega); have l1_w1 : w.heap.size + 1 < w1.heap.size := (by omega)))
        | (go_at_call 21; ((with_reducible refine (isInt_r k x a n s _ _ HI.out).mono ?_); rintro E w3 ⟨rfl, hu3⟩; have k_w3 := hu3.cells.1; have f_w3 := hu3.cells.2; have z_w3 := hu3.size; (try simp at z_w3); have l0_w3 : w.heap.size < w3.heap.size := (by omega); have l1_w3 : w.heap.size + 1 < w3.heap.size := (by omega))))
      go_ret2
      exact ⟨⟨_, rfl, Or.inr ⟨by decide, rfl⟩⟩, by (repeat' (first | (with_reducible exact Up.refl _) | (with_reducible assumption) | (with_reducible refine Up.alloc ?_ _) | (with_reducible refine Up.drew ?_) | (with_reducible refine Up.drewN ?_ _) | (with_reducible refine Up.setCell ?_ ?_ _) | (with_reducible refine Up.call ?_ (by with_reducible assumption)) | go_size))⟩
    cases hI2 : isI k' n'
    · obtain ⟨rfl, rfl, rfl⟩ : 0 = rk ∧ 0 = rn ∧ 16 = re := by simpa [bin, hT, hI, hI2, tcheck] using hR
      have HI := Lib.hid hI
      have HI2 := Lib.hid hI2
      clear hI hI2 hR hT
      go_enter Tryd.func12, Tryd.ntmps12
      go_wp2_with (first
        | (go_at_call 18; ((with_reducible refine (isTruth_r k x a n s _ _ HT.out).mono ?_); rintro E w1 ⟨rfl, hu1⟩; have k_w1 := hu1.cells.1; have f_w1 := hu1.cells.2; have z_w1 := hu1.size; (try simp at z_w1); have l0_w1 : w.heap.size < w1.heap.size := (by omega); have l1_w1 : w.heap.size + 1 < w1.heap.size := (by omega)))
        | (go_at_call 21; ((with_reducible refine (isInt_r k x a n s _ _ HI.out).mono ?_); rintro E w3 ⟨rfl, hu3⟩; have k_w3 := hu3.cells.1; have f_w3 := hu3.cells.2; have z_w3 := hu3.size; (try simp at z_w3); have l0_w3 : w.heap.size < w3.heap.size := (by omega); have l1_w3 : w.heap.size + 1 < w3.heap.size := (by omega)))
        | (go_at_call 21; ((with_reducible refine (isInt_r k' x' a' n' s' _ _ HI2.out).mono ?_); rintro E w4 ⟨rfl, hu4⟩; have k_w4 := hu4.cells.1; have f_w4 := hu4.cells.2; have z_w4 := hu4.size; (try simp at z_w4); have l0_w4 : w.heap.size < w4.heap.size := (by omega); have l1_w4 : w.heap.size + 1 < w4.heap.size := (by omega))))
      go_ret2
      exact ⟨⟨_, rfl, Or.inr ⟨by decide, rfl⟩⟩, by (repeat' (first | (with_reducible exact Up.refl _) | (with_reducible assumption) | (with_reducible refine Up.alloc ?_ _) | (with_reducible refine Up.drew ?_) | (with_reducible refine Up.drewN ?_ _) | (with_reducible refine Up.setCell ?_ ?_ _) | (with_reducible refine Up.call ?_ (by with_reducible assumption)) | go_size))⟩
    obtain ⟨-, b1, b2⟩ := isI_fits hI
    obtain ⟨-, b1', b2'⟩ := isI_fits hI2
    obtain ⟨rfl, rfl, rfl⟩ : 1 = rk ∧ BitM.res 2 n n' = rn ∧ 0 = re := by simpa [bin, hT, hI, hI2] using hR
    have HI := Lib.hid hI
    have HI2 := Lib.hid hI2
    clear hI hI2 hR hT
    go_enter Tryd.func12, Tryd.ntmps12
    go_wp2_with (first
      | (go_at_call 18; ((with_reducible refine (isTruth_r k x a n s _ _ HT.out).mono ?_); rintro E w1 ⟨rfl, hu1⟩; have k_w1 := hu1.cells.1; have f_w1 := hu1.cells.2; have z_w1 := hu1.size; (try simp at z_w1); have l0_w1 : w.heap.size < w1.heap.size := (by omega); have l1_w1 : w.heap.size + 1 < w1.heap.size := (by omega)))
      | (go_at_call 21; ((with_reducible refine (isInt_r k x a n s _ _ HI.out).mono ?_); rintro E w3 ⟨rfl, hu3⟩; have k_w3 := hu3.cells.1; have f_w3 := hu3.cells.2; have z_w3 := hu3.size; (try simp at z_w3); have l0_w3 : w.heap.size < w3.heap.size := (by omega); have l1_w3 : w.heap.size + 1 < w3.heap.size := (by omega)))
      | (go_at_call 21; ((with_reducible refine (isInt_r k' x' a' n' s' _ _ HI2.out).mono ?_); rintro E w4 ⟨rfl, hu4⟩; have k_w4 := hu4.cells.1; have f_w4 := hu4.cells.2; have z_w4 := hu4.size; (try simp at z_w4); have l0_w4 : w.heap.size < w4.heap.size := (by omega); have l1_w4 : w.heap.size + 1 < w4.heap.size := (by omega)))
      | (go_at_call 25; ((with_reducible refine (bitwise_2 n n' b1 b2 b1' b2' _).mono ?_); rintro E w7 ⟨rfl, rfl⟩))
      | (go_at_call 22; ((with_reducible refine (whole_r _ _).mono ?_); rintro E w8 ⟨rfl, hu8⟩))
      | (go_at_call 19; ((with_reducible refine (one_r _ _ _).mono ?_); rintro E w9 ⟨⟨v, rfl, hv⟩, hu9⟩; have HV := Lib.hid hv; clear hv)))
    go_ret2
    exact ⟨⟨v, rfl, HV.out.of_up (by (repeat' (first | (with_reducible exact Up.refl _) | (with_reducible assumption) | (with_reducible refine Up.alloc ?_ _) | (with_reducible refine Up.drew ?_) | (with_reducible refine Up.drewN ?_ _) | (with_reducible refine Up.setCell ?_ ?_ _) | (with_reducible refine Up.call ?_ (by with_reducible assumption)) | go_size)))⟩, by (repeat' (first | (with_reducible exact Up.refl _) | (with_reducible assumption) | (with_reducible refine Up.alloc ?_ _) | (with_reducible refine Up.drew ?_) | (with_reducible refine Up.drewN ?_ _) | (with_reducible refine Up.setCell ?_ ?_ _) | (with_reducible refine Up.call ?_ (by with_reducible assumption)) | go_size))⟩
  cases hT2 : isT k' n'
  · have HT := Lib.hid hT
    have HT2 := Lib.hid hT2
    cases hI : isI k n
    · obtain ⟨rfl, rfl, rfl⟩ : 0 = rk ∧ 0 = rn ∧ 16 = re := by simpa [bin, hT, hT2, hI, tcheck] using hR
      have HI := Lib.hid hI
      clear hI hR hT hT2
      go_enter Tryd.func12, Tryd.ntmps12
      go_wp2_with (first
        | (go_at_call 18; ((with_reducible refine (isTruth_r k x a n s _ _ HT.out).mono ?_); rintro E w1 ⟨rfl, hu1⟩; have k_w1 := hu1.cells.1; have f_w1 := hu1.cells.2; have z_w1 := hu1.size; (try simp at z_w1); have l0_w1 : w.heap.size < w1.heap.size := (by omega); have l1_w1 : w.heap.size + 1 < w1.heap.size := (by omega)))
        | (go_at_call 18; ((with_reducible refine (isTruth_r k' x' a' n' s' _ _ HT2.out).mono ?_); rintro E w2 ⟨rfl, hu2⟩; have k_w2 := hu2.cells.1; have f_w2 := hu2.cells.2; have z_w2 := hu2.size; (try simp at z_w2); have l0_w2 : w.heap.size < w2.heap.size := (by omega); have l1_w2 : w.heap.size + 1 < w2.heap.size := (by omega)))
        | (go_at_call 21; ((with_reducible refine (isInt_r k x a n s _ _ HI.out).mono ?_); rintro E w3 ⟨rfl, hu3⟩; have k_w3 := hu3.cells.1; have f_w3 := hu3.cells.2; have z_w3 := hu3.size; (try simp at z_w3); have l0_w3 : w.heap.size < w3.heap.size := (by omega); have l1_w3 : w.heap.size + 1 < w3.heap.size := (by omega))))
      go_ret2
      exact ⟨⟨_, rfl, Or.inr ⟨by decide, rfl⟩⟩, by (repeat' (first | (with_reducible exact Up.refl _) | (with_reducible assumption) | (with_reducible refine Up.alloc ?_ _) | (with_reducible refine Up.drew ?_) | (with_reducible refine Up.drewN ?_ _) | (with_reducible refine Up.setCell ?_ ?_ _) | (with_reducible refine Up.call ?_ (by with_reducible assumption)) | go_size))⟩
    cases hI2 : isI k' n'
    · obtain ⟨rfl, rfl, rfl⟩ : 0 = rk ∧ 0 = rn ∧ 16 = re := by simpa [bin, hT, hT2, hI, hI2, tcheck] using hR
      have HI := Lib.hid hI
      have HI2 := Lib.hid hI2
      clear hI hI2 hR hT hT2
      go_enter Tryd.func12, Tryd.ntmps12
      go_wp2_with (first
        | (go_at_call 18; ((with_reducible refine (isTruth_r k x a n s _ _ HT.out).mono ?_); rintro E w1 ⟨rfl, hu1⟩; have k_w1 := hu1.cells.1; have f_w1 := hu1.cells.2; have z_w1 := hu1.size; (try simp at z_w1); have l0_w1 : w.heap.size < w1.heap.size := (by omega); have l1_w1 : w.heap.size + 1 < w1.heap.size := (by omega)))
        | (go_at_call 18; ((with_reducible refine (isTruth_r k' x' a' n' s' _ _ HT2.out).mono ?_); rintro E w2 ⟨rfl, hu2⟩; have k_w2 := hu2.cells.1; have f_w2 := hu2.cells.2; have z_w2 := hu2.size; (try simp at z_w2); have l0_w2 : w.heap.size < w2.heap.size := (by omega); have l1_w2 : w.heap.size + 1 < w2.heap.size := (by omega)))
        | (go_at_call 21; ((with_reducible refine (isInt_r k x a n s _ _ HI.out).mono ?_); rintro E w3 ⟨rfl, hu3⟩; have k_w3 := hu3.cells.1; have f_w3 := hu3.cells.2; have z_w3 := hu3.size; (try simp at z_w3); have l0_w3 : w.heap.size < w3.heap.size := (by omega); have l1_w3 : w.heap.size + 1 < w3.heap.size := (by omega)))
        | (go_at_call 21; ((with_reducible refine (isInt_r k' x' a' n' s' _ _ HI2.out).mono ?_); rintro E w4 ⟨rfl, hu4⟩; have k_w4 := hu4.cells.1; have f_w4 := hu4.cells.2; have z_w4 := hu4.size; (try simp at z_w4); have l0_w4 : w.heap.size < w4.heap.size := (by omega); have l1_w4 : w.heap.size + 1 < w4.heap.size := (by omega))))
      go_ret2
      exact ⟨⟨_, rfl, Or.inr ⟨by decide, rfl⟩⟩, by (repeat' (first | (with_reducible exact Up.refl _) | (with_reducible assumption) | (with_reducible refine Up.alloc ?_ _) | (with_reducible refine Up.drew ?_) | (with_reducible refine Up.drewN ?_ _) | (with_reducible refine Up.setCell ?_ ?_ _) | (with_reducible refine Up.call ?_ (by with_reducible assumption)) | go_size))⟩
    obtain ⟨-, b1, b2⟩ := isI_fits hI
    obtain ⟨-, b1', b2'⟩ := isI_fits hI2
    obtain ⟨rfl, rfl, rfl⟩ : 1 = rk ∧ BitM.res 2 n n' = rn ∧ 0 = re := by simpa [bin, hT, hT2, hI, hI2] using hR
    have HI := Lib.hid hI
    have HI2 := Lib.hid hI2
    clear hI hI2 hR hT hT2
    go_enter Tryd.func12, Tryd.ntmps12
    go_wp2_with (first
      | (go_at_call 18; ((with_reducible refine (isTruth_r k x a n s _ _ HT.out).mono ?_); rintro E w1 ⟨rfl, hu1⟩; have k_w1 := hu1.cells.1; have f_w1 := hu1.cells.2; have z_w1 := hu1.size; (try simp at z_w1); have l0_w1 : w.heap.size < w1.heap.size := (by omega); have l1_w1 : w.heap.size + 1 < w1.heap.size := (by omega)))
      | (go_at_call 18; ((with_reducible refine (isTruth_r k' x' a' n' s' _ _ HT2.out).mono ?_); rintro E w2 ⟨rfl, hu2⟩; have k_w2 := hu2.cells.1; have f_w2 := hu2.cells.2; have z_w2 := hu2.size; (try simp at z_w2); have l0_w2 : w.heap.size < w2.heap.size := (by omega); have l1_w2 : w.heap.size + 1 < w2.heap.size := (by omega)))
      | (go_at_call 21; ((with_reducible refine (isInt_r k x a n s _ _ HI.out).mono ?_); rintro E w3 ⟨rfl, hu3⟩; have k_w3 := hu3.cells.1; have f_w3 := hu3.cells.2; have z_w3 := hu3.size; (try simp at z_w3); have l0_w3 : w.heap.size < w3.heap.size := (by omega); have l1_w3 : w.heap.size + 1 < w3.heap.size := (by omega)))
      | (go_at_call 21; ((with_reducible refine (isInt_r k' x' a' n' s' _ _ HI2.out).mono ?_); rintro E w4 ⟨rfl, hu4⟩; have k_w4 := hu4.cells.1; have f_w4 := hu4.cells.2; have z_w4 := hu4.size; (try simp at z_w4); have l0_w4 : w.heap.size < w4.heap.size := (by omega); have l1_w4 : w.heap.size + 1 < w4.heap.size := (by omega)))
      | (go_at_call 25; ((with_reducible refine (bitwise_2 n n' b1 b2 b1' b2' _).mono ?_); rintro E w7 ⟨rfl, rfl⟩))
      | (go_at_call 22; ((with_reducible refine (whole_r _ _).mono ?_); rintro E w8 ⟨rfl, hu8⟩))
      | (go_at_call 19; ((with_reducible refine (one_r _ _ _).mono ?_); rintro E w9 ⟨⟨v, rfl, hv⟩, hu9⟩; have HV := Lib.hid hv; clear hv)))
    go_ret2
    exact ⟨⟨v, rfl, HV.out.of_up (by (repeat' (first | (with_reducible exact Up.refl _) | (with_reducible assumption) | (with_reducible refine Up.alloc ?_ _) | (with_reducible refine Up.drew ?_) | (with_reducible refine Up.drewN ?_ _) | (with_reducible refine Up.setCell ?_ ?_ _) | (with_reducible refine Up.call ?_ (by with_reducible assumption)) | go_size)))⟩, by (repeat' (first | (with_reducible exact Up.refl _) | (with_reducible assumption) | (with_reducible refine Up.alloc ?_ _) | (with_reducible refine Up.drew ?_) | (with_reducible refine Up.drewN ?_ _) | (with_reducible refine Up.setCell ?_ ?_ _) | (with_reducible refine Up.call ?_ (by with_reducible assumption)) | go_size))⟩
  have hz : BitM.res 2 n n' = truthN (BitM.bop 2 (n == 1) (n' == 1)) := by
    obtain ⟨-, h1⟩ := isT_cases hT
    obtain ⟨-, h2⟩ := isT_cases hT2
    rcases h1 with rfl | rfl <;> rcases h2 with rfl | rfl <;> decide
  obtain ⟨rfl, rfl, rfl⟩ : 3 = rk ∧ truthN (BitM.bop 2 (n == 1) (n' == 1)) = rn ∧ 0 = re := by rw [← hz]; simpa [bin, hT, hT2] using hR
  have HT := Lib.hid hT
  have HT2 := Lib.hid hT2
  clear hT hT2 hR hz
  go_enter Tryd.func12, Tryd.ntmps12
  go_wp2_with (first
    | (go_at_call 18; ((with_reducible refine (isTruth_r k x a n s _ _ HT.out).mono ?_); rintro E w1 ⟨rfl, hu1⟩; have k_w1 := hu1.cells.1; have f_w1 := hu1.cells.2; have z_w1 := hu1.size; (try simp at z_w1); have l0_w1 : w.heap.size < w1.heap.size := (by omega); have l1_w1 : w.heap.size + 1 < w1.heap.size := (by omega)))
    | (go_at_call 18; ((with_reducible refine (isTruth_r k' x' a' n' s' _ _ HT2.out).mono ?_); rintro E w2 ⟨rfl, hu2⟩; have k_w2 := hu2.cells.1; have f_w2 := hu2.cells.2; have z_w2 := hu2.size; (try simp at z_w2); have l0_w2 : w.heap.size < w2.heap.size := (by omega); have l1_w2 : w.heap.size + 1 < w2.heap.size := (by omega)))
    | (go_at_call 24; ((with_reducible refine (logic_2 _ _ _).mono ?_); rintro E w5 ⟨rfl, rfl⟩))
    | (go_at_call 20; ((with_reducible refine (truth_r _ _).mono ?_); rintro E w6 ⟨rfl, hu6⟩))
    | (go_at_call 19; ((with_reducible refine (one_r _ _ _).mono ?_); rintro E w9 ⟨⟨v, rfl, hv⟩, hu9⟩; have HV := Lib.hid hv; clear hv)))
  go_ret2
  exact ⟨⟨v, rfl, HV.out.of_up (by (repeat' (first | (with_reducible exact Up.refl _) | (with_reducible assumption) | (with_reducible refine Up.alloc ?_ _) | (with_reducible refine Up.drew ?_) | (with_reducible refine Up.drewN ?_ _) | (with_reducible refine Up.setCell ?_ ?_ _) | (with_reducible refine Up.call ?_ (by with_reducible assumption)) | go_size)))⟩, by (repeat' (first | (with_reducible exact Up.refl _) | (with_reducible assumption) | (with_reducible refine Up.alloc ?_ _) | (with_reducible refine Up.drew ?_) | (with_reducible refine Up.drewN ?_ _) | (with_reducible refine Up.setCell ?_ ?_ _) | (with_reducible refine Up.call ?_ (by with_reducible assumption)) | go_size))⟩

end Go.Proofs.YtakickodehebmaaDoor.Ar
end

section
namespace Go.Proofs.YtakickodehebmaaDoor.Ar
open Go.ChangeShapes Go.WideShapes Go.ChangeAt Go.RowKit
open Go.Proofs.YtakickodehebmaaDoor.FixM (fits within)
open Go.Proofs.YtakickodehebmaaDoor.ArM
set_option linter.unusedVariables false
set_option linter.unusedSimpArgs false

set_option maxRecDepth 100000 in
set_option maxHeartbeats 4000000 in
theorem arith_20 (k : Int) (x : Bool) (a n : Int) (s : ByteArray) (k' : Int) (x' : Bool) (a' n' : Int) (s' : ByteArray) (g cp : Nat) (w : World) (R : Cs w g #[.int .i64 k, .bool x, .int .i64 a, .int .i64 n, .string s, .pointer none, .pointer none, .pointer none, .int .i64 0, .int .i64 0, .int .i64 k', .bool x', .int .i64 a', .int .i64 n', .string s', .pointer none, .pointer none, .pointer none, .int .i64 0, .int .i64 0]) (hg : g < w.heap.size) (rk rn re : Int) (hR : bin 20 k n k' n' = (rk, rn, re)) :
    Calls Tryd.prog 12 #[.string ⟨#[103, 116]⟩, .slice (some ⟨g, 0, none⟩) 2 cp] w fun E w' => GivesR w rk rn re E w' ∧ Up w w' := by
  have hg1 : g < w.heap.size + 1 := by omega
  have hg2 : g < w.heap.size + 1 + 1 := by omega
  have hgn : ¬ w.heap.size = g := by omega
  have hgn1 : ¬ w.heap.size + 1 = g := by omega
  have c0 := R 0 _ rfl
  have c1 := R 1 _ rfl
  have c2 := R 2 _ rfl
  have c3 := R 3 _ rfl
  have c4 := R 4 _ rfl
  have c5 := R 5 _ rfl
  have c6 := R 6 _ rfl
  have c7 := R 7 _ rfl
  have c8 := R 8 _ rfl
  have c9 := R 9 _ rfl
  have c10 := R 10 _ rfl
  have c11 := R 11 _ rfl
  have c12 := R 12 _ rfl
  have c13 := R 13 _ rfl
  have c14 := R 14 _ rfl
  have c15 := R 15 _ rfl
  have c16 := R 16 _ rfl
  have c17 := R 17 _ rfl
  have c18 := R 18 _ rfl
  have c19 := R 19 _ rfl
  clear R
  cases hN : numb k n
  · obtain ⟨rfl, rfl, rfl⟩ : 0 = rk ∧ 0 = rn ∧ 16 = re := by simpa [bin, hN, tcheck] using hR
    have HN := Lib.hid hN
    clear hN hR
    go_enter Tryd.func12, Tryd.ntmps12
    go_wp2_with (first
      | (go_at_call 15; ((with_reducible refine (isNumber_calls k x a n s _).mono ?_); rw [HN.out]; rintro E w1 ⟨rfl, hu1⟩; have k_w1 := hu1.cells.1; have f_w1 := hu1.cells.2; have z_w1 := hu1.size; (try simp at z_w1); have l0_w1 : w.heap.size < w1.heap.size := (by omega); have l1_w1 : w.heap.size + 1 < w1.heap.size := (by omega))))
    go_ret2
    exact ⟨⟨_, rfl, Or.inr ⟨by decide, rfl⟩⟩, by (repeat' (first | (with_reducible exact Up.refl _) | (with_reducible assumption) | (with_reducible refine Up.alloc ?_ _) | (with_reducible refine Up.drew ?_) | (with_reducible refine Up.drewN ?_ _) | (with_reducible refine Up.setCell ?_ ?_ _) | (with_reducible refine Up.call ?_ (by with_reducible assumption)) | go_size))⟩
  cases hN2 : numb k' n'
  · obtain ⟨rfl, rfl, rfl⟩ : 0 = rk ∧ 0 = rn ∧ 16 = re := by simpa [bin, hN, hN2, tcheck] using hR
    have HN := Lib.hid hN
    have HN2 := Lib.hid hN2
    clear hN hN2 hR
    go_enter Tryd.func12, Tryd.ntmps12
    go_wp2_with (first
      | (go_at_call 15; ((with_reducible refine (isNumber_calls k x a n s _).mono ?_); rw [HN.out]; rintro E w1 ⟨rfl, hu1⟩; have k_w1 := hu1.cells.1; have f_w1 := hu1.cells.2; have z_w1 := hu1.size; (try simp at z_w1); have l0_w1 : w.heap.size < w1.heap.size := (by omega); have l1_w1 : w.heap.size + 1 < w1.heap.size := (by omega)))
      | (go_at_call 15; ((with_reducible refine (isNumber_calls k' x' a' n' s' _).mono ?_); rw [HN2.out]; rintro E w2 ⟨rfl, hu2⟩; have k_w2 := hu2.cells.1; have f_w2 := hu2.cells.2; have z_w2 := hu2.size; (try simp at z_w2); have l0_w2 : w.heap.size < w2.heap.size := (by omega); have l1_w2 : w.heap.size + 1 < w2.heap.size := (by omega))))
    go_ret2
    exact ⟨⟨_, rfl, Or.inr ⟨by decide, rfl⟩⟩, by (repeat' (first | (with_reducible exact Up.refl _) | (with_reducible assumption) | (with_reducible refine Up.alloc ?_ _) | (with_reducible refine Up.drew ?_) | (with_reducible refine Up.drewN ?_ _) | (with_reducible refine Up.setCell ?_ ?_ _) | (with_reducible refine Up.call ?_ (by with_reducible assumption)) | go_size))⟩
  obtain ⟨hk, b1, b2⟩ := numb_fits hN
  obtain ⟨hk', b1', b2'⟩ := numb_fits hN2
  obtain ⟨X, hX⟩ : ∃ X, scaled k n = X := ⟨_, rfl⟩
  obtain ⟨Y, hY⟩ : ∃ Y, scaled k' n' = Y := ⟨_, rfl⟩
  obtain ⟨rfl, rfl, rfl⟩ : 3 = rk ∧ truthN (decide (Y < X)) = rn ∧ 0 = re := by simpa [bin, hN, hN2, hX, hY, orderB] using hR
  have HX := Lib.hid hX
  have HY := Lib.hid hY
  have HN := Lib.hid hN
  have HN2 := Lib.hid hN2
  clear hR hX hY hN hN2 hk hk'
  go_enter Tryd.func12, Tryd.ntmps12
  go_wp2_with (first
    | (go_at_call 15; ((with_reducible refine (isNumber_calls k x a n s _).mono ?_); rw [HN.out]; rintro E w1 ⟨rfl, hu1⟩; have k_w1 := hu1.cells.1; have f_w1 := hu1.cells.2; have z_w1 := hu1.size; (try simp at z_w1); have l0_w1 : w.heap.size < w1.heap.size := (by omega); have l1_w1 : w.heap.size + 1 < w1.heap.size := (by omega)))
    | (go_at_call 15; ((with_reducible refine (isNumber_calls k' x' a' n' s' _).mono ?_); rw [HN2.out]; rintro E w2 ⟨rfl, hu2⟩; have k_w2 := hu2.cells.1; have f_w2 := hu2.cells.2; have z_w2 := hu2.size; (try simp at z_w2); have l0_w2 : w.heap.size < w2.heap.size := (by omega); have l1_w2 : w.heap.size + 1 < w2.heap.size := (by omega))))
  have RX : Row w2 w.heap.size #[.int .i64 k, .bool x, .int .i64 a, .int .i64 n, .string s, .pointer none, .pointer none, .pointer none, .int .i64 0, .int .i64 0] := Row.up (Row.up (show Row ((w.alloc (.cells #[.int .i64 k, .bool x, .int .i64 a, .int .i64 n, .string s, .pointer none, .pointer none, .pointer none, .int .i64 0, .int .i64 0] 35)).alloc (.cells #[.int .i64 k', .bool x', .int .i64 a', .int .i64 n', .string s', .pointer none, .pointer none, .pointer none, .int .i64 0, .int .i64 0] 35)) _ _ by (repeat' (first | (with_reducible assumption) | (with_reducible refine Row.at _ _ ?_; (simp; done)) | (with_reducible refine Row.alloc ?_ _) | (with_reducible refine Row.drew ?_) | (with_reducible refine Row.drewN ?_ _) | (with_reducible refine Row.other ?_ (by first | (simp; done) | (simp; omega) | omega) _) | (with_reducible refine Row.up ?_ (by with_reducible assumption)) | (with_reducible refine Row.chg ?_ (by with_reducible assumption) (by first | (simp; done) | (simp; omega)))))) hu1) hu2
  have RY : Row w2 (w.heap.size + 1) #[.int .i64 k', .bool x', .int .i64 a', .int .i64 n', .string s', .pointer none, .pointer none, .pointer none, .int .i64 0, .int .i64 0] := Row.up (Row.up (show Row ((w.alloc (.cells #[.int .i64 k, .bool x, .int .i64 a, .int .i64 n, .string s, .pointer none, .pointer none, .pointer none, .int .i64 0, .int .i64 0] 35)).alloc (.cells #[.int .i64 k', .bool x', .int .i64 a', .int .i64 n', .string s', .pointer none, .pointer none, .pointer none, .int .i64 0, .int .i64 0] 35)) _ _ by (repeat' (first | (with_reducible assumption) | (with_reducible refine Row.at _ _ ?_; (simp; done)) | (with_reducible refine Row.alloc ?_ _) | (with_reducible refine Row.drew ?_) | (with_reducible refine Row.drewN ?_ _) | (with_reducible refine Row.other ?_ (by first | (simp; done) | (simp; omega) | omega) _) | (with_reducible refine Row.up ?_ (by with_reducible assumption)) | (with_reducible refine Row.chg ?_ (by with_reducible assumption) (by first | (simp; done) | (simp; omega)))))) hu1) hu2
  go_region_held3 (fun w' => w'.cell? ⟨w.heap.size, 0, none⟩ = some (.int .i64 k) ∧ w'.cell? ⟨w.heap.size, 1, none⟩ = some (.bool x) ∧ w'.cell? ⟨w.heap.size, 2, none⟩ = some (.int .i64 a) ∧ w'.cell? ⟨w.heap.size, 3, none⟩ = some (.int .i64 n) ∧ w'.cell? ⟨w.heap.size, 4, none⟩ = some (.string s) ∧ w'.cell? ⟨w.heap.size, 5, none⟩ = some (.pointer none) ∧ w'.cell? ⟨w.heap.size, 6, none⟩ = some (.pointer none) ∧ w'.cell? ⟨w.heap.size, 7, none⟩ = some (.pointer none) ∧ w'.cell? ⟨w.heap.size, 8, none⟩ = some (.int .i64 0) ∧ w'.cell? ⟨w.heap.size, 9, none⟩ = some (.int .i64 0) ∧ w'.cell? ⟨w.heap.size + 1, 0, none⟩ = some (.int .i64 k') ∧ w'.cell? ⟨w.heap.size + 1, 1, none⟩ = some (.bool x') ∧ w'.cell? ⟨w.heap.size + 1, 2, none⟩ = some (.int .i64 a') ∧ w'.cell? ⟨w.heap.size + 1, 3, none⟩ = some (.int .i64 n') ∧ w'.cell? ⟨w.heap.size + 1, 4, none⟩ = some (.string s') ∧ w'.cell? ⟨w.heap.size + 1, 5, none⟩ = some (.pointer none) ∧ w'.cell? ⟨w.heap.size + 1, 6, none⟩ = some (.pointer none) ∧ w'.cell? ⟨w.heap.size + 1, 7, none⟩ = some (.pointer none) ∧ w'.cell? ⟨w.heap.size + 1, 8, none⟩ = some (.int .i64 0) ∧ w'.cell? ⟨w.heap.size + 1, 9, none⟩ = some (.int .i64 0)) (first | exact ⟨RX9.cell 0 rfl, RX9.cell 1 rfl, RX9.cell 2 rfl, RX9.cell 3 rfl, RX9.cell 4 rfl, RX9.cell 5 rfl, RX9.cell 6 rfl, RX9.cell 7 rfl, RX9.cell 8 rfl, RX9.cell 9 rfl, RY9.cell 0 rfl, RY9.cell 1 rfl, RY9.cell 2 rfl, RY9.cell 3 rfl, RY9.cell 4 rfl, RY9.cell 5 rfl, RY9.cell 6 rfl, RY9.cell 7 rfl, RY9.cell 8 rfl, RY9.cell 9 rfl⟩ | exact ⟨RX5.cell 0 rfl, RX5.cell 1 rfl, RX5.cell 2 rfl, RX5.cell 3 rfl, RX5.cell 4 rfl, RX5.cell 5 rfl, RX5.cell 6 rfl, RX5.cell 7 rfl, RX5.cell 8 rfl, RX5.cell 9 rfl, RY5.cell 0 rfl, RY5.cell 1 rfl, RY5.cell 2 rfl, RY5.cell 3 rfl, RY5.cell 4 rfl, RY5.cell 5 rfl, RY5.cell 6 rfl, RY5.cell 7 rfl, RY5.cell 8 rfl, RY5.cell 9 rfl⟩ | exact ⟨RX4.cell 0 rfl, RX4.cell 1 rfl, RX4.cell 2 rfl, RX4.cell 3 rfl, RX4.cell 4 rfl, RX4.cell 5 rfl, RX4.cell 6 rfl, RX4.cell 7 rfl, RX4.cell 8 rfl, RX4.cell 9 rfl, RY4.cell 0 rfl, RY4.cell 1 rfl, RY4.cell 2 rfl, RY4.cell 3 rfl, RY4.cell 4 rfl, RY4.cell 5 rfl, RY4.cell 6 rfl, RY4.cell 7 rfl, RY4.cell 8 rfl, RY4.cell 9 rfl⟩ | exact ⟨RX3.cell 0 rfl, RX3.cell 1 rfl, RX3.cell 2 rfl, RX3.cell 3 rfl, RX3.cell 4 rfl, RX3.cell 5 rfl, RX3.cell 6 rfl, RX3.cell 7 rfl, RX3.cell 8 rfl, RX3.cell 9 rfl, RY3.cell 0 rfl, RY3.cell 1 rfl, RY3.cell 2 rfl, RY3.cell 3 rfl, RY3.cell 4 rfl, RY3.cell 5 rfl, RY3.cell 6 rfl, RY3.cell 7 rfl, RY3.cell 8 rfl, RY3.cell 9 rfl⟩ | exact ⟨RX.cell 0 rfl, RX.cell 1 rfl, RX.cell 2 rfl, RX.cell 3 rfl, RX.cell 4 rfl, RX.cell 5 rfl, RX.cell 6 rfl, RX.cell 7 rfl, RX.cell 8 rfl, RX.cell 9 rfl, RY.cell 0 rfl, RY.cell 1 rfl, RY.cell 2 rfl, RY.cell 3 rfl, RY.cell 4 rfl, RY.cell 5 rfl, RY.cell 6 rfl, RY.cell 7 rfl, RY.cell 8 rfl, RY.cell 9 rfl⟩ | go_keep) (first
    | (go_at_call 27; ((with_reducible refine (value_r k x a n s _ X HX.out b1 b2).mono ?_); rintro E w3 ⟨rfl, hu3⟩; have U3 : Up w2 w3 := (by (repeat' (first | (with_reducible exact Up.refl _) | (with_reducible assumption) | (with_reducible refine Up.alloc ?_ _) | (with_reducible refine Up.drew ?_) | (with_reducible refine Up.drewN ?_ _) | (with_reducible refine Up.setCell ?_ ?_ _) | (with_reducible refine Up.call ?_ (by with_reducible assumption)) | go_size))); have RX3 := RX.up U3; have RY3 := RY.up U3))
    | (go_at_call 27; ((with_reducible refine (value_r k' x' a' n' s' _ Y HY.out b1' b2').mono ?_); rintro E w4 ⟨rfl, hu4⟩; have U4 : Up w2 w4 := (by (repeat' (first | (with_reducible exact Up.refl _) | (with_reducible assumption) | (with_reducible refine Up.alloc ?_ _) | (with_reducible refine Up.drew ?_) | (with_reducible refine Up.drewN ?_ _) | (with_reducible refine Up.setCell ?_ ?_ _) | (with_reducible refine Up.call ?_ (by with_reducible assumption)) | go_size))); have RX4 := RX.up U4; have RY4 := RY.up U4))
    | (go_at_call 20; ((with_reducible refine (truth_r _ _).mono ?_); rintro E w5 ⟨rfl, hu5⟩; have U5 : Up w2 w5 := (by (repeat' (first | (with_reducible exact Up.refl _) | (with_reducible assumption) | (with_reducible refine Up.alloc ?_ _) | (with_reducible refine Up.drew ?_) | (with_reducible refine Up.drewN ?_ _) | (with_reducible refine Up.setCell ?_ ?_ _) | (with_reducible refine Up.call ?_ (by with_reducible assumption)) | go_size))); have RX5 := RX.up U5; have RY5 := RY.up U5))
    | (go_at_call 19; ((with_reducible refine (one_r _ _ _).mono ?_); rintro E w9 ⟨⟨v, rfl, hv⟩, hu9⟩; have HV := Lib.hid hv; clear hv; have U9 : Up w2 w9 := (by (repeat' (first | (with_reducible exact Up.refl _) | (with_reducible assumption) | (with_reducible refine Up.alloc ?_ _) | (with_reducible refine Up.drew ?_) | (with_reducible refine Up.drewN ?_ _) | (with_reducible refine Up.setCell ?_ ?_ _) | (with_reducible refine Up.call ?_ (by with_reducible assumption)) | go_size))); have RX9 := RX.up U9; have RY9 := RY.up U9)))
  all_goals go_wp2
  all_goals
    go_ret2
    exact ⟨⟨v, rfl, HV.out.of_up (by (repeat' (first | (with_reducible exact Up.refl _) | (with_reducible assumption) | (with_reducible refine Up.alloc ?_ _) | (with_reducible refine Up.drew ?_) | (with_reducible refine Up.drewN ?_ _) | (with_reducible refine Up.setCell ?_ ?_ _) | (with_reducible refine Up.call ?_ (by with_reducible assumption)) | go_size)))⟩, by (repeat' (first | (with_reducible exact Up.refl _) | (with_reducible assumption) | (with_reducible refine Up.alloc ?_ _) | (with_reducible refine Up.drew ?_) | (with_reducible refine Up.drewN ?_ _) | (with_reducible refine Up.setCell ?_ ?_ _) | (with_reducible refine Up.call ?_ (by with_reducible assumption)) | go_size))⟩

set_option maxRecDepth 100000 in
set_option maxHeartbeats 4000000 in
theorem arith_21 (k : Int) (x : Bool) (a n : Int) (s : ByteArray) (k' : Int) (x' : Bool) (a' n' : Int) (s' : ByteArray) (g cp : Nat) (w : World) (R : Cs w g #[.int .i64 k, .bool x, .int .i64 a, .int .i64 n, .string s, .pointer none, .pointer none, .pointer none, .int .i64 0, .int .i64 0, .int .i64 k', .bool x', .int .i64 a', .int .i64 n', .string s', .pointer none, .pointer none, .pointer none, .int .i64 0, .int .i64 0]) (hg : g < w.heap.size) (rk rn re : Int) (hR : bin 21 k n k' n' = (rk, rn, re)) :
    Calls Tryd.prog 12 #[.string ⟨#[103, 101]⟩, .slice (some ⟨g, 0, none⟩) 2 cp] w fun E w' => GivesR w rk rn re E w' ∧ Up w w' := by
  have hg1 : g < w.heap.size + 1 := by omega
  have hg2 : g < w.heap.size + 1 + 1 := by omega
  have hgn : ¬ w.heap.size = g := by omega
  have hgn1 : ¬ w.heap.size + 1 = g := by omega
  have c0 := R 0 _ rfl
  have c1 := R 1 _ rfl
  have c2 := R 2 _ rfl
  have c3 := R 3 _ rfl
  have c4 := R 4 _ rfl
  have c5 := R 5 _ rfl
  have c6 := R 6 _ rfl
  have c7 := R 7 _ rfl
  have c8 := R 8 _ rfl
  have c9 := R 9 _ rfl
  have c10 := R 10 _ rfl
  have c11 := R 11 _ rfl
  have c12 := R 12 _ rfl
  have c13 := R 13 _ rfl
  have c14 := R 14 _ rfl
  have c15 := R 15 _ rfl
  have c16 := R 16 _ rfl
  have c17 := R 17 _ rfl
  have c18 := R 18 _ rfl
  have c19 := R 19 _ rfl
  clear R
  cases hN : numb k n
  · obtain ⟨rfl, rfl, rfl⟩ : 0 = rk ∧ 0 = rn ∧ 16 = re := by simpa [bin, hN, tcheck] using hR
    have HN := Lib.hid hN
    clear hN hR
    go_enter Tryd.func12, Tryd.ntmps12
    go_wp2_with (first
      | (go_at_call 15; ((with_reducible refine (isNumber_calls k x a n s _).mono ?_); rw [HN.out]; rintro E w1 ⟨rfl, hu1⟩; have k_w1 := hu1.cells.1; have f_w1 := hu1.cells.2; have z_w1 := hu1.size; (try simp at z_w1); have l0_w1 : w.heap.size < w1.heap.size := (by omega); have l1_w1 : w.heap.size + 1 < w1.heap.size := (by omega))))
    go_ret2
    exact ⟨⟨_, rfl, Or.inr ⟨by decide, rfl⟩⟩, by (repeat' (first | (with_reducible exact Up.refl _) | (with_reducible assumption) | (with_reducible refine Up.alloc ?_ _) | (with_reducible refine Up.drew ?_) | (with_reducible refine Up.drewN ?_ _) | (with_reducible refine Up.setCell ?_ ?_ _) | (with_reducible refine Up.call ?_ (by with_reducible assumption)) | go_size))⟩
  cases hN2 : numb k' n'
  · obtain ⟨rfl, rfl, rfl⟩ : 0 = rk ∧ 0 = rn ∧ 16 = re := by simpa [bin, hN, hN2, tcheck] using hR
    have HN := Lib.hid hN
    have HN2 := Lib.hid hN2
    clear hN hN2 hR
    go_enter Tryd.func12, Tryd.ntmps12
    go_wp2_with (first
      | (go_at_call 15; ((with_reducible refine (isNumber_calls k x a n s _).mono ?_); rw [HN.out]; rintro E w1 ⟨rfl, hu1⟩; have k_w1 := hu1.cells.1; have f_w1 := hu1.cells.2; have z_w1 := hu1.size; (try simp at z_w1); have l0_w1 : w.heap.size < w1.heap.size := (by omega); have l1_w1 : w.heap.size + 1 < w1.heap.size := (by omega)))
      | (go_at_call 15; ((with_reducible refine (isNumber_calls k' x' a' n' s' _).mono ?_); rw [HN2.out]; rintro E w2 ⟨rfl, hu2⟩; have k_w2 := hu2.cells.1; have f_w2 := hu2.cells.2; have z_w2 := hu2.size; (try simp at z_w2); have l0_w2 : w.heap.size < w2.heap.size := (by omega); have l1_w2 : w.heap.size + 1 < w2.heap.size := (by omega))))
    go_ret2
    exact ⟨⟨_, rfl, Or.inr ⟨by decide, rfl⟩⟩, by (repeat' (first | (with_reducible exact Up.refl _) | (with_reducible assumption) | (with_reducible refine Up.alloc ?_ _) | (with_reducible refine Up.drew ?_) | (with_reducible refine Up.drewN ?_ _) | (with_reducible refine Up.setCell ?_ ?_ _) | (with_reducible refine Up.call ?_ (by with_reducible assumption)) | go_size))⟩
  obtain ⟨hk, b1, b2⟩ := numb_fits hN
  obtain ⟨hk', b1', b2'⟩ := numb_fits hN2
  obtain ⟨X, hX⟩ : ∃ X, scaled k n = X := ⟨_, rfl⟩
  obtain ⟨Y, hY⟩ : ∃ Y, scaled k' n' = Y := ⟨_, rfl⟩
  obtain ⟨rfl, rfl, rfl⟩ : 3 = rk ∧ truthN (decide (Y ≤ X)) = rn ∧ 0 = re := by simpa [bin, hN, hN2, hX, hY, orderB] using hR
  have HX := Lib.hid hX
  have HY := Lib.hid hY
  have HN := Lib.hid hN
  have HN2 := Lib.hid hN2
  clear hR hX hY hN hN2 hk hk'
  go_enter Tryd.func12, Tryd.ntmps12
  go_wp2_with (first
    | (go_at_call 15; ((with_reducible refine (isNumber_calls k x a n s _).mono ?_); rw [HN.out]; rintro E w1 ⟨rfl, hu1⟩; have k_w1 := hu1.cells.1; have f_w1 := hu1.cells.2; have z_w1 := hu1.size; (try simp at z_w1); have l0_w1 : w.heap.size < w1.heap.size := (by omega); have l1_w1 : w.heap.size + 1 < w1.heap.size := (by omega)))
    | (go_at_call 15; ((with_reducible refine (isNumber_calls k' x' a' n' s' _).mono ?_); rw [HN2.out]; rintro E w2 ⟨rfl, hu2⟩; have k_w2 := hu2.cells.1; have f_w2 := hu2.cells.2; have z_w2 := hu2.size; (try simp at z_w2); have l0_w2 : w.heap.size < w2.heap.size := (by omega); have l1_w2 : w.heap.size + 1 < w2.heap.size := (by omega))))
  have RX : Row w2 w.heap.size #[.int .i64 k, .bool x, .int .i64 a, .int .i64 n, .string s, .pointer none, .pointer none, .pointer none, .int .i64 0, .int .i64 0] := Row.up (Row.up (show Row ((w.alloc (.cells #[.int .i64 k, .bool x, .int .i64 a, .int .i64 n, .string s, .pointer none, .pointer none, .pointer none, .int .i64 0, .int .i64 0] 35)).alloc (.cells #[.int .i64 k', .bool x', .int .i64 a', .int .i64 n', .string s', .pointer none, .pointer none, .pointer none, .int .i64 0, .int .i64 0] 35)) _ _ by (repeat' (first | (with_reducible assumption) | (with_reducible refine Row.at _ _ ?_; (simp; done)) | (with_reducible refine Row.alloc ?_ _) | (with_reducible refine Row.drew ?_) | (with_reducible refine Row.drewN ?_ _) | (with_reducible refine Row.other ?_ (by first | (simp; done) | (simp; omega) | omega) _) | (with_reducible refine Row.up ?_ (by with_reducible assumption)) | (with_reducible refine Row.chg ?_ (by with_reducible assumption) (by first | (simp; done) | (simp; omega)))))) hu1) hu2
  have RY : Row w2 (w.heap.size + 1) #[.int .i64 k', .bool x', .int .i64 a', .int .i64 n', .string s', .pointer none, .pointer none, .pointer none, .int .i64 0, .int .i64 0] := Row.up (Row.up (show Row ((w.alloc (.cells #[.int .i64 k, .bool x, .int .i64 a, .int .i64 n, .string s, .pointer none, .pointer none, .pointer none, .int .i64 0, .int .i64 0] 35)).alloc (.cells #[.int .i64 k', .bool x', .int .i64 a', .int .i64 n', .string s', .pointer none, .pointer none, .pointer none, .int .i64 0, .int .i64 0] 35)) _ _ by (repeat' (first | (with_reducible assumption) | (with_reducible refine Row.at _ _ ?_; (simp; done)) | (with_reducible refine Row.alloc ?_ _) | (with_reducible refine Row.drew ?_) | (with_reducible refine Row.drewN ?_ _) | (with_reducible refine Row.other ?_ (by first | (simp; done) | (simp; omega) | omega) _) | (with_reducible refine Row.up ?_ (by with_reducible assumption)) | (with_reducible refine Row.chg ?_ (by with_reducible assumption) (by first | (simp; done) | (simp; omega)))))) hu1) hu2
  go_region_held3 (fun w' => w'.cell? ⟨w.heap.size, 0, none⟩ = some (.int .i64 k) ∧ w'.cell? ⟨w.heap.size, 1, none⟩ = some (.bool x) ∧ w'.cell? ⟨w.heap.size, 2, none⟩ = some (.int .i64 a) ∧ w'.cell? ⟨w.heap.size, 3, none⟩ = some (.int .i64 n) ∧ w'.cell? ⟨w.heap.size, 4, none⟩ = some (.string s) ∧ w'.cell? ⟨w.heap.size, 5, none⟩ = some (.pointer none) ∧ w'.cell? ⟨w.heap.size, 6, none⟩ = some (.pointer none) ∧ w'.cell? ⟨w.heap.size, 7, none⟩ = some (.pointer none) ∧ w'.cell? ⟨w.heap.size, 8, none⟩ = some (.int .i64 0) ∧ w'.cell? ⟨w.heap.size, 9, none⟩ = some (.int .i64 0) ∧ w'.cell? ⟨w.heap.size + 1, 0, none⟩ = some (.int .i64 k') ∧ w'.cell? ⟨w.heap.size + 1, 1, none⟩ = some (.bool x') ∧ w'.cell? ⟨w.heap.size + 1, 2, none⟩ = some (.int .i64 a') ∧ w'.cell? ⟨w.heap.size + 1, 3, none⟩ = some (.int .i64 n') ∧ w'.cell? ⟨w.heap.size + 1, 4, none⟩ = some (.string s') ∧ w'.cell? ⟨w.heap.size + 1, 5, none⟩ = some (.pointer none) ∧ w'.cell? ⟨w.heap.size + 1, 6, none⟩ = some (.pointer none) ∧ w'.cell? ⟨w.heap.size + 1, 7, none⟩ = some (.pointer none) ∧ w'.cell? ⟨w.heap.size + 1, 8, none⟩ = some (.int .i64 0) ∧ w'.cell? ⟨w.heap.size + 1, 9, none⟩ = some (.int .i64 0)) (first | exact ⟨RX9.cell 0 rfl, RX9.cell 1 rfl, RX9.cell 2 rfl, RX9.cell 3 rfl, RX9.cell 4 rfl, RX9.cell 5 rfl, RX9.cell 6 rfl, RX9.cell 7 rfl, RX9.cell 8 rfl, RX9.cell 9 rfl, RY9.cell 0 rfl, RY9.cell 1 rfl, RY9.cell 2 rfl, RY9.cell 3 rfl, RY9.cell 4 rfl, RY9.cell 5 rfl, RY9.cell 6 rfl, RY9.cell 7 rfl, RY9.cell 8 rfl, RY9.cell 9 rfl⟩ | exact ⟨RX5.cell 0 rfl, RX5.cell 1 rfl, RX5.cell 2 rfl, RX5.cell 3 rfl, RX5.cell 4 rfl, RX5.cell 5 rfl, RX5.cell 6 rfl, RX5.cell 7 rfl, RX5.cell 8 rfl, RX5.cell 9 rfl, RY5.cell 0 rfl, RY5.cell 1 rfl, RY5.cell 2 rfl, RY5.cell 3 rfl, RY5.cell 4 rfl, RY5.cell 5 rfl, RY5.cell 6 rfl, RY5.cell 7 rfl, RY5.cell 8 rfl, RY5.cell 9 rfl⟩ | exact ⟨RX4.cell 0 rfl, RX4.cell 1 rfl, RX4.cell 2 rfl, RX4.cell 3 rfl, RX4.cell 4 rfl, RX4.cell 5 rfl, RX4.cell 6 rfl, RX4.cell 7 rfl, RX4.cell 8 rfl, RX4.cell 9 rfl, RY4.cell 0 rfl, RY4.cell 1 rfl, RY4.cell 2 rfl, RY4.cell 3 rfl, RY4.cell 4 rfl, RY4.cell 5 rfl, RY4.cell 6 rfl, RY4.cell 7 rfl, RY4.cell 8 rfl, RY4.cell 9 rfl⟩ | exact ⟨RX3.cell 0 rfl, RX3.cell 1 rfl, RX3.cell 2 rfl, RX3.cell 3 rfl, RX3.cell 4 rfl, RX3.cell 5 rfl, RX3.cell 6 rfl, RX3.cell 7 rfl, RX3.cell 8 rfl, RX3.cell 9 rfl, RY3.cell 0 rfl, RY3.cell 1 rfl, RY3.cell 2 rfl, RY3.cell 3 rfl, RY3.cell 4 rfl, RY3.cell 5 rfl, RY3.cell 6 rfl, RY3.cell 7 rfl, RY3.cell 8 rfl, RY3.cell 9 rfl⟩ | exact ⟨RX.cell 0 rfl, RX.cell 1 rfl, RX.cell 2 rfl, RX.cell 3 rfl, RX.cell 4 rfl, RX.cell 5 rfl, RX.cell 6 rfl, RX.cell 7 rfl, RX.cell 8 rfl, RX.cell 9 rfl, RY.cell 0 rfl, RY.cell 1 rfl, RY.cell 2 rfl, RY.cell 3 rfl, RY.cell 4 rfl, RY.cell 5 rfl, RY.cell 6 rfl, RY.cell 7 rfl, RY.cell 8 rfl, RY.cell 9 rfl⟩ | go_keep) (first
    | (go_at_call 27; ((with_reducible refine (value_r k x a n s _ X HX.out b1 b2).mono ?_); rintro E w3 ⟨rfl, hu3⟩; have U3 : Up w2 w3 := (by (repeat' (first | (with_reducible exact Up.refl _) | (with_reducible assumption) | (with_reducible refine Up.alloc ?_ _) | (with_reducible refine Up.drew ?_) | (with_reducible refine Up.drewN ?_ _) | (with_reducible refine Up.setCell ?_ ?_ _) | (with_reducible refine Up.call ?_ (by with_reducible assumption)) | go_size))); have RX3 := RX.up U3; have RY3 := RY.up U3))
    | (go_at_call 27; ((with_reducible refine (value_r k' x' a' n' s' _ Y HY.out b1' b2').mono ?_); rintro E w4 ⟨rfl, hu4⟩; have U4 : Up w2 w4 := (by (repeat' (first | (with_reducible exact Up.refl _) | (with_reducible assumption) | (with_reducible refine Up.alloc ?_ _) | (with_reducible refine Up.drew ?_) | (with_reducible refine Up.drewN ?_ _) | (with_reducible refine Up.setCell ?_ ?_ _) | (with_reducible refine Up.call ?_ (by with_reducible assumption)) | go_size))); have RX4 := RX.up U4; have RY4 := RY.up U4))
    | (go_at_call 20; ((with_reducible refine (truth_r _ _).mono ?_); rintro E w5 ⟨rfl, hu5⟩; have U5 : Up w2 w5 := (by (repeat' (first | (with_reducible exact Up.refl _) | (with_reducible assumption) | (with_reducible refine Up.alloc ?_ _) | (with_reducible refine Up.drew ?_) | (with_reducible refine Up.drewN ?_ _) | (with_reducible refine Up.setCell ?_ ?_ _) | (with_reducible refine Up.call ?_ (by with_reducible assumption)) | go_size))); have RX5 := RX.up U5; have RY5 := RY.up U5))
    | (go_at_call 19; ((with_reducible refine (one_r _ _ _).mono ?_); rintro E w9 ⟨⟨v, rfl, hv⟩, hu9⟩; have HV := Lib.hid hv; clear hv; have U9 : Up w2 w9 := (by (repeat' (first | (with_reducible exact Up.refl _) | (with_reducible assumption) | (with_reducible refine Up.alloc ?_ _) | (with_reducible refine Up.drew ?_) | (with_reducible refine Up.drewN ?_ _) | (with_reducible refine Up.setCell ?_ ?_ _) | (with_reducible refine Up.call ?_ (by with_reducible assumption)) | go_size))); have RX9 := RX.up U9; have RY9 := RY.up U9)))
  all_goals go_wp2
  all_goals
    go_ret2
    exact ⟨⟨v, rfl, HV.out.of_up (by (repeat' (first | (with_reducible exact Up.refl _) | (with_reducible assumption) | (with_reducible refine Up.alloc ?_ _) | (with_reducible refine Up.drew ?_) | (with_reducible refine Up.drewN ?_ _) | (with_reducible refine Up.setCell ?_ ?_ _) | (with_reducible refine Up.call ?_ (by with_reducible assumption)) | go_size)))⟩, by (repeat' (first | (with_reducible exact Up.refl _) | (with_reducible assumption) | (with_reducible refine Up.alloc ?_ _) | (with_reducible refine Up.drew ?_) | (with_reducible refine Up.drewN ?_ _) | (with_reducible refine Up.setCell ?_ ?_ _) | (with_reducible refine Up.call ?_ (by with_reducible assumption)) | go_size))⟩

set_option maxRecDepth 100000 in
set_option maxHeartbeats 4000000 in
theorem arith_22 (k : Int) (x : Bool) (a n : Int) (s : ByteArray) (k' : Int) (x' : Bool) (a' n' : Int) (s' : ByteArray) (g cp : Nat) (w : World) (R : Cs w g #[.int .i64 k, .bool x, .int .i64 a, .int .i64 n, .string s, .pointer none, .pointer none, .pointer none, .int .i64 0, .int .i64 0, .int .i64 k', .bool x', .int .i64 a', .int .i64 n', .string s', .pointer none, .pointer none, .pointer none, .int .i64 0, .int .i64 0]) (hg : g < w.heap.size) (rk rn re : Int) (hR : bin 22 k n k' n' = (rk, rn, re)) :
    Calls Tryd.prog 12 #[.string ⟨#[108, 116]⟩, .slice (some ⟨g, 0, none⟩) 2 cp] w fun E w' => GivesR w rk rn re E w' ∧ Up w w' := by
  have hg1 : g < w.heap.size + 1 := by omega
  have hg2 : g < w.heap.size + 1 + 1 := by omega
  have hgn : ¬ w.heap.size = g := by omega
  have hgn1 : ¬ w.heap.size + 1 = g := by omega
  have c0 := R 0 _ rfl
  have c1 := R 1 _ rfl
  have c2 := R 2 _ rfl
  have c3 := R 3 _ rfl
  have c4 := R 4 _ rfl
  have c5 := R 5 _ rfl
  have c6 := R 6 _ rfl
  have c7 := R 7 _ rfl
  have c8 := R 8 _ rfl
  have c9 := R 9 _ rfl
  have c10 := R 10 _ rfl
  have c11 := R 11 _ rfl
  have c12 := R 12 _ rfl
  have c13 := R 13 _ rfl
  have c14 := R 14 _ rfl
  have c15 := R 15 _ rfl
  have c16 := R 16 _ rfl
  have c17 := R 17 _ rfl
  have c18 := R 18 _ rfl
  have c19 := R 19 _ rfl
  clear R
  cases hN : numb k n
  · obtain ⟨rfl, rfl, rfl⟩ : 0 = rk ∧ 0 = rn ∧ 16 = re := by simpa [bin, hN, tcheck] using hR
    have HN := Lib.hid hN
    clear hN hR
    go_enter Tryd.func12, Tryd.ntmps12
    go_wp2_with (first
      | (go_at_call 15; ((with_reducible refine (isNumber_calls k x a n s _).mono ?_); rw [HN.out]; rintro E w1 ⟨rfl, hu1⟩; have k_w1 := hu1.cells.1; have f_w1 := hu1.cells.2; have z_w1 := hu1.size; (try simp at z_w1); have l0_w1 : w.heap.size < w1.heap.size := (by omega); have l1_w1 : w.heap.size + 1 < w1.heap.size := (by omega))))
    go_ret2
    exact ⟨⟨_, rfl, Or.inr ⟨by decide, rfl⟩⟩, by (repeat' (first | (with_reducible exact Up.refl _) | (with_reducible assumption) | (with_reducible refine Up.alloc ?_ _) | (with_reducible refine Up.drew ?_) | (with_reducible refine Up.drewN ?_ _) | (with_reducible refine Up.setCell ?_ ?_ _) | (with_reducible refine Up.call ?_ (by with_reducible assumption)) | go_size))⟩
  cases hN2 : numb k' n'
  · obtain ⟨rfl, rfl, rfl⟩ : 0 = rk ∧ 0 = rn ∧ 16 = re := by simpa [bin, hN, hN2, tcheck] using hR
    have HN := Lib.hid hN
    have HN2 := Lib.hid hN2
    clear hN hN2 hR
    go_enter Tryd.func12, Tryd.ntmps12
    go_wp2_with (first
      | (go_at_call 15; ((with_reducible refine (isNumber_calls k x a n s _).mono ?_); rw [HN.out]; rintro E w1 ⟨rfl, hu1⟩; have k_w1 := hu1.cells.1; have f_w1 := hu1.cells.2; have z_w1 := hu1.size; (try simp at z_w1); have l0_w1 : w.heap.size < w1.heap.size := (by omega); have l1_w1 : w.heap.size + 1 < w1.heap.size := (by omega)))
      | (go_at_call 15; ((with_reducible refine (isNumber_calls k' x' a' n' s' _).mono ?_); rw [HN2.out]; rintro E w2 ⟨rfl, hu2⟩; have k_w2 := hu2.cells.1; have f_w2 := hu2.cells.2; have z_w2 := hu2.size; (try simp at z_w2); have l0_w2 : w.heap.size < w2.heap.size := (by omega); have l1_w2 : w.heap.size + 1 < w2.heap.size := (by omega))))
    go_ret2
    exact ⟨⟨_, rfl, Or.inr ⟨by decide, rfl⟩⟩, by (repeat' (first | (with_reducible exact Up.refl _) | (with_reducible assumption) | (with_reducible refine Up.alloc ?_ _) | (with_reducible refine Up.drew ?_) | (with_reducible refine Up.drewN ?_ _) | (with_reducible refine Up.setCell ?_ ?_ _) | (with_reducible refine Up.call ?_ (by with_reducible assumption)) | go_size))⟩
  obtain ⟨hk, b1, b2⟩ := numb_fits hN
  obtain ⟨hk', b1', b2'⟩ := numb_fits hN2
  obtain ⟨X, hX⟩ : ∃ X, scaled k n = X := ⟨_, rfl⟩
  obtain ⟨Y, hY⟩ : ∃ Y, scaled k' n' = Y := ⟨_, rfl⟩
  obtain ⟨rfl, rfl, rfl⟩ : 3 = rk ∧ truthN (decide (X < Y)) = rn ∧ 0 = re := by simpa [bin, hN, hN2, hX, hY, orderB] using hR
  have HX := Lib.hid hX
  have HY := Lib.hid hY
  have HN := Lib.hid hN
  have HN2 := Lib.hid hN2
  clear hR hX hY hN hN2 hk hk'
  go_enter Tryd.func12, Tryd.ntmps12
  go_wp2_with (first
    | (go_at_call 15; ((with_reducible refine (isNumber_calls k x a n s _).mono ?_); rw [HN.out]; rintro E w1 ⟨rfl, hu1⟩; have k_w1 := hu1.cells.1; have f_w1 := hu1.cells.2; have z_w1 := hu1.size; (try simp at z_w1); have l0_w1 : w.heap.size < w1.heap.size := (by omega); have l1_w1 : w.heap.size + 1 < w1.heap.size := (by omega)))
    | (go_at_call 15; ((with_reducible refine (isNumber_calls k' x' a' n' s' _).mono ?_); rw [HN2.out]; rintro E w2 ⟨rfl, hu2⟩; have k_w2 := hu2.cells.1; have f_w2 := hu2.cells.2; have z_w2 := hu2.size; (try simp at z_w2); have l0_w2 : w.heap.size < w2.heap.size := (by omega); have l1_w2 : w.heap.size + 1 < w2.heap.size := (by omega))))
  have RX : Row w2 w.heap.size #[.int .i64 k, .bool x, .int .i64 a, .int .i64 n, .string s, .pointer none, .pointer none, .pointer none, .int .i64 0, .int .i64 0] := Row.up (Row.up (show Row ((w.alloc (.cells #[.int .i64 k, .bool x, .int .i64 a, .int .i64 n, .string s, .pointer none, .pointer none, .pointer none, .int .i64 0, .int .i64 0] 35)).alloc (.cells #[.int .i64 k', .bool x', .int .i64 a', .int .i64 n', .string s', .pointer none, .pointer none, .pointer none, .int .i64 0, .int .i64 0] 35)) _ _ by (repeat' (first | (with_reducible assumption) | (with_reducible refine Row.at _ _ ?_; (simp; done)) | (with_reducible refine Row.alloc ?_ _) | (with_reducible refine Row.drew ?_) | (with_reducible refine Row.drewN ?_ _) | (with_reducible refine Row.other ?_ (by first | (simp; done) | (simp; omega) | omega) _) | (with_reducible refine Row.up ?_ (by with_reducible assumption)) | (with_reducible refine Row.chg ?_ (by with_reducible assumption) (by first | (simp; done) | (simp; omega)))))) hu1) hu2
  have RY : Row w2 (w.heap.size + 1) #[.int .i64 k', .bool x', .int .i64 a', .int .i64 n', .string s', .pointer none, .pointer none, .pointer none, .int .i64 0, .int .i64 0] := Row.up (Row.up (show Row ((w.alloc (.cells #[.int .i64 k, .bool x, .int .i64 a, .int .i64 n, .string s, .pointer none, .pointer none, .pointer none, .int .i64 0, .int .i64 0] 35)).alloc (.cells #[.int .i64 k', .bool x', .int .i64 a', .int .i64 n', .string s', .pointer none, .pointer none, .pointer none, .int .i64 0, .int .i64 0] 35)) _ _ by (repeat' (first | (with_reducible assumption) | (with_reducible refine Row.at _ _ ?_; (simp; done)) | (with_reducible refine Row.alloc ?_ _) | (with_reducible refine Row.drew ?_) | (with_reducible refine Row.drewN ?_ _) | (with_reducible refine Row.other ?_ (by first | (simp; done) | (simp; omega) | omega) _) | (with_reducible refine Row.up ?_ (by with_reducible assumption)) | (with_reducible refine Row.chg ?_ (by with_reducible assumption) (by first | (simp; done) | (simp; omega)))))) hu1) hu2
  go_region_held3 (fun w' => w'.cell? ⟨w.heap.size, 0, none⟩ = some (.int .i64 k) ∧ w'.cell? ⟨w.heap.size, 1, none⟩ = some (.bool x) ∧ w'.cell? ⟨w.heap.size, 2, none⟩ = some (.int .i64 a) ∧ w'.cell? ⟨w.heap.size, 3, none⟩ = some (.int .i64 n) ∧ w'.cell? ⟨w.heap.size, 4, none⟩ = some (.string s) ∧ w'.cell? ⟨w.heap.size, 5, none⟩ = some (.pointer none) ∧ w'.cell? ⟨w.heap.size, 6, none⟩ = some (.pointer none) ∧ w'.cell? ⟨w.heap.size, 7, none⟩ = some (.pointer none) ∧ w'.cell? ⟨w.heap.size, 8, none⟩ = some (.int .i64 0) ∧ w'.cell? ⟨w.heap.size, 9, none⟩ = some (.int .i64 0) ∧ w'.cell? ⟨w.heap.size + 1, 0, none⟩ = some (.int .i64 k') ∧ w'.cell? ⟨w.heap.size + 1, 1, none⟩ = some (.bool x') ∧ w'.cell? ⟨w.heap.size + 1, 2, none⟩ = some (.int .i64 a') ∧ w'.cell? ⟨w.heap.size + 1, 3, none⟩ = some (.int .i64 n') ∧ w'.cell? ⟨w.heap.size + 1, 4, none⟩ = some (.string s') ∧ w'.cell? ⟨w.heap.size + 1, 5, none⟩ = some (.pointer none) ∧ w'.cell? ⟨w.heap.size + 1, 6, none⟩ = some (.pointer none) ∧ w'.cell? ⟨w.heap.size + 1, 7, none⟩ = some (.pointer none) ∧ w'.cell? ⟨w.heap.size + 1, 8, none⟩ = some (.int .i64 0) ∧ w'.cell? ⟨w.heap.size + 1, 9, none⟩ = some (.int .i64 0)) (first | exact ⟨RX9.cell 0 rfl, RX9.cell 1 rfl, RX9.cell 2 rfl, RX9.cell 3 rfl, RX9.cell 4 rfl, RX9.cell 5 rfl, RX9.cell 6 rfl, RX9.cell 7 rfl, RX9.cell 8 rfl, RX9.cell 9 rfl, RY9.cell 0 rfl, RY9.cell 1 rfl, RY9.cell 2 rfl, RY9.cell 3 rfl, RY9.cell 4 rfl, RY9.cell 5 rfl, RY9.cell 6 rfl, RY9.cell 7 rfl, RY9.cell 8 rfl, RY9.cell 9 rfl⟩ | exact ⟨RX5.cell 0 rfl, RX5.cell 1 rfl, RX5.cell 2 rfl, RX5.cell 3 rfl, RX5.cell 4 rfl, RX5.cell 5 rfl, RX5.cell 6 rfl, RX5.cell 7 rfl, RX5.cell 8 rfl, RX5.cell 9 rfl, RY5.cell 0 rfl, RY5.cell 1 rfl, RY5.cell 2 rfl, RY5.cell 3 rfl, RY5.cell 4 rfl, RY5.cell 5 rfl, RY5.cell 6 rfl, RY5.cell 7 rfl, RY5.cell 8 rfl, RY5.cell 9 rfl⟩ | exact ⟨RX4.cell 0 rfl, RX4.cell 1 rfl, RX4.cell 2 rfl, RX4.cell 3 rfl, RX4.cell 4 rfl, RX4.cell 5 rfl, RX4.cell 6 rfl, RX4.cell 7 rfl, RX4.cell 8 rfl, RX4.cell 9 rfl, RY4.cell 0 rfl, RY4.cell 1 rfl, RY4.cell 2 rfl, RY4.cell 3 rfl, RY4.cell 4 rfl, RY4.cell 5 rfl, RY4.cell 6 rfl, RY4.cell 7 rfl, RY4.cell 8 rfl, RY4.cell 9 rfl⟩ | exact ⟨RX3.cell 0 rfl, RX3.cell 1 rfl, RX3.cell 2 rfl, RX3.cell 3 rfl, RX3.cell 4 rfl, RX3.cell 5 rfl, RX3.cell 6 rfl, RX3.cell 7 rfl, RX3.cell 8 rfl, RX3.cell 9 rfl, RY3.cell 0 rfl, RY3.cell 1 rfl, RY3.cell 2 rfl, RY3.cell 3 rfl, RY3.cell 4 rfl, RY3.cell 5 rfl, RY3.cell 6 rfl, RY3.cell 7 rfl, RY3.cell 8 rfl, RY3.cell 9 rfl⟩ | exact ⟨RX.cell 0 rfl, RX.cell 1 rfl, RX.cell 2 rfl, RX.cell 3 rfl, RX.cell 4 rfl, RX.cell 5 rfl, RX.cell 6 rfl, RX.cell 7 rfl, RX.cell 8 rfl, RX.cell 9 rfl, RY.cell 0 rfl, RY.cell 1 rfl, RY.cell 2 rfl, RY.cell 3 rfl, RY.cell 4 rfl, RY.cell 5 rfl, RY.cell 6 rfl, RY.cell 7 rfl, RY.cell 8 rfl, RY.cell 9 rfl⟩ | go_keep) (first
    | (go_at_call 27; ((with_reducible refine (value_r k x a n s _ X HX.out b1 b2).mono ?_); rintro E w3 ⟨rfl, hu3⟩; have U3 : Up w2 w3 := (by (repeat' (first | (with_reducible exact Up.refl _) | (with_reducible assumption) | (with_reducible refine Up.alloc ?_ _) | (with_reducible refine Up.drew ?_) | (with_reducible refine Up.drewN ?_ _) | (with_reducible refine Up.setCell ?_ ?_ _) | (with_reducible refine Up.call ?_ (by with_reducible assumption)) | go_size))); have RX3 := RX.up U3; have RY3 := RY.up U3))
    | (go_at_call 27; ((with_reducible refine (value_r k' x' a' n' s' _ Y HY.out b1' b2').mono ?_); rintro E w4 ⟨rfl, hu4⟩; have U4 : Up w2 w4 := (by (repeat' (first | (with_reducible exact Up.refl _) | (with_reducible assumption) | (with_reducible refine Up.alloc ?_ _) | (with_reducible refine Up.drew ?_) | (with_reducible refine Up.drewN ?_ _) | (with_reducible refine Up.setCell ?_ ?_ _) | (with_reducible refine Up.call ?_ (by with_reducible assumption)) | go_size))); have RX4 := RX.up U4; have RY4 := RY.up U4))
    | (go_at_call 20; ((with_reducible refine (truth_r _ _).mono ?_); rintro E w5 ⟨rfl, hu5⟩; have U5 : Up w2 w5 := (by (repeat' (first | (with_reducible exact Up.refl _) | (with_reducible assumption) | (with_reducible refine Up.alloc ?_ _) | (with_reducible refine Up.drew ?_) | (with_reducible refine Up.drewN ?_ _) | (with_reducible refine Up.setCell ?_ ?_ _) | (with_reducible refine Up.call ?_ (by with_reducible assumption)) | go_size))); have RX5 := RX.up U5; have RY5 := RY.up U5))
    | (go_at_call 19; ((with_reducible refine (one_r _ _ _).mono ?_); rintro E w9 ⟨⟨v, rfl, hv⟩, hu9⟩; have HV := Lib.hid hv; clear hv; have U9 : Up w2 w9 := (by (repeat' (first | (with_reducible exact Up.refl _) | (with_reducible assumption) | (with_reducible refine Up.alloc ?_ _) | (with_reducible refine Up.drew ?_) | (with_reducible refine Up.drewN ?_ _) | (with_reducible refine Up.setCell ?_ ?_ _) | (with_reducible refine Up.call ?_ (by with_reducible assumption)) | go_size))); have RX9 := RX.up U9; have RY9 := RY.up U9)))
  all_goals go_wp2
  all_goals
    go_ret2
    exact ⟨⟨v, rfl, HV.out.of_up (by (repeat' (first | (with_reducible exact Up.refl _) | (with_reducible assumption) | (with_reducible refine Up.alloc ?_ _) | (with_reducible refine Up.drew ?_) | (with_reducible refine Up.drewN ?_ _) | (with_reducible refine Up.setCell ?_ ?_ _) | (with_reducible refine Up.call ?_ (by with_reducible assumption)) | go_size)))⟩, by (repeat' (first | (with_reducible exact Up.refl _) | (with_reducible assumption) | (with_reducible refine Up.alloc ?_ _) | (with_reducible refine Up.drew ?_) | (with_reducible refine Up.drewN ?_ _) | (with_reducible refine Up.setCell ?_ ?_ _) | (with_reducible refine Up.call ?_ (by with_reducible assumption)) | go_size))⟩

set_option maxRecDepth 100000 in
set_option maxHeartbeats 4000000 in
theorem arith_23 (k : Int) (x : Bool) (a n : Int) (s : ByteArray) (k' : Int) (x' : Bool) (a' n' : Int) (s' : ByteArray) (g cp : Nat) (w : World) (R : Cs w g #[.int .i64 k, .bool x, .int .i64 a, .int .i64 n, .string s, .pointer none, .pointer none, .pointer none, .int .i64 0, .int .i64 0, .int .i64 k', .bool x', .int .i64 a', .int .i64 n', .string s', .pointer none, .pointer none, .pointer none, .int .i64 0, .int .i64 0]) (hg : g < w.heap.size) (rk rn re : Int) (hR : bin 23 k n k' n' = (rk, rn, re)) :
    Calls Tryd.prog 12 #[.string ⟨#[108, 101]⟩, .slice (some ⟨g, 0, none⟩) 2 cp] w fun E w' => GivesR w rk rn re E w' ∧ Up w w' := by
  have hg1 : g < w.heap.size + 1 := by omega
  have hg2 : g < w.heap.size + 1 + 1 := by omega
  have hgn : ¬ w.heap.size = g := by omega
  have hgn1 : ¬ w.heap.size + 1 = g := by omega
  have c0 := R 0 _ rfl
  have c1 := R 1 _ rfl
  have c2 := R 2 _ rfl
  have c3 := R 3 _ rfl
  have c4 := R 4 _ rfl
  have c5 := R 5 _ rfl
  have c6 := R 6 _ rfl
  have c7 := R 7 _ rfl
  have c8 := R 8 _ rfl
  have c9 := R 9 _ rfl
  have c10 := R 10 _ rfl
  have c11 := R 11 _ rfl
  have c12 := R 12 _ rfl
  have c13 := R 13 _ rfl
  have c14 := R 14 _ rfl
  have c15 := R 15 _ rfl
  have c16 := R 16 _ rfl
  have c17 := R 17 _ rfl
  have c18 := R 18 _ rfl
  have c19 := R 19 _ rfl
  clear R
  cases hN : numb k n
  · obtain ⟨rfl, rfl, rfl⟩ : 0 = rk ∧ 0 = rn ∧ 16 = re := by simpa [bin, hN, tcheck] using hR
    have HN := Lib.hid hN
    clear hN hR
    go_enter Tryd.func12, Tryd.ntmps12
    go_wp2_with (first
      | (go_at_call 15; ((with_reducible refine (isNumber_calls k x a n s _).mono ?_); rw [HN.out]; rintro E w1 ⟨rfl, hu1⟩; have k_w1 := hu1.cells.1; have f_w1 := hu1.cells.2; have z_w1 := hu1.size; (try simp at z_w1); have l0_w1 : w.heap.size < w1.heap.size := (by omega); have l1_w1 : w.heap.size + 1 < w1.heap.size := (by omega))))
    go_ret2
    exact ⟨⟨_, rfl, Or.inr ⟨by decide, rfl⟩⟩, by (repeat' (first | (with_reducible exact Up.refl _) | (with_reducible assumption) | (with_reducible refine Up.alloc ?_ _) | (with_reducible refine Up.drew ?_) | (with_reducible refine Up.drewN ?_ _) | (with_reducible refine Up.setCell ?_ ?_ _) | (with_reducible refine Up.call ?_ (by with_reducible assumption)) | go_size))⟩
  cases hN2 : numb k' n'
  · obtain ⟨rfl, rfl, rfl⟩ : 0 = rk ∧ 0 = rn ∧ 16 = re := by simpa [bin, hN, hN2, tcheck] using hR
    have HN := Lib.hid hN
    have HN2 := Lib.hid hN2
    clear hN hN2 hR
    go_enter Tryd.func12, Tryd.ntmps12
    go_wp2_with (first
      | (go_at_call 15; ((with_reducible refine (isNumber_calls k x a n s _).mono ?_); rw [HN.out]; rintro E w1 ⟨rfl, hu1⟩; have k_w1 := hu1.cells.1; have f_w1 := hu1.cells.2; have z_w1 := hu1.size; (try simp at z_w1); have l0_w1 : w.heap.size < w1.heap.size := (by omega); have l1_w1 : w.heap.size + 1 < w1.heap.size := (by omega)))
      | (go_at_call 15; ((with_reducible refine (isNumber_calls k' x' a' n' s' _).mono ?_); rw [HN2.out]; rintro E w2 ⟨rfl, hu2⟩; have k_w2 := hu2.cells.1; have f_w2 := hu2.cells.2; have z_w2 := hu2.size; (try simp at z_w2); have l0_w2 : w.heap.size < w2.heap.size := (by omega); have l1_w2 : w.heap.size + 1 < w2.heap.size := (by omega))))
    go_ret2
    exact ⟨⟨_, rfl, Or.inr ⟨by decide, rfl⟩⟩, by (repeat' (first | (with_reducible exact Up.refl _) | (with_reducible assumption) | (with_reducible refine Up.alloc ?_ _) | (with_reducible refine Up.drew ?_) | (with_reducible refine Up.drewN ?_ _) | (with_reducible refine Up.setCell ?_ ?_ _) | (with_reducible refine Up.call ?_ (by with_reducible assumption)) | go_size))⟩
  obtain ⟨hk, b1, b2⟩ := numb_fits hN
  obtain ⟨hk', b1', b2'⟩ := numb_fits hN2
  obtain ⟨X, hX⟩ : ∃ X, scaled k n = X := ⟨_, rfl⟩
  obtain ⟨Y, hY⟩ : ∃ Y, scaled k' n' = Y := ⟨_, rfl⟩
  obtain ⟨rfl, rfl, rfl⟩ : 3 = rk ∧ truthN (decide (X ≤ Y)) = rn ∧ 0 = re := by simpa [bin, hN, hN2, hX, hY, orderB] using hR
  have HX := Lib.hid hX
  have HY := Lib.hid hY
  have HN := Lib.hid hN
  have HN2 := Lib.hid hN2
  clear hR hX hY hN hN2 hk hk'
  go_enter Tryd.func12, Tryd.ntmps12
  go_wp2_with (first
    | (go_at_call 15; ((with_reducible refine (isNumber_calls k x a n s _).mono ?_); rw [HN.out]; rintro E w1 ⟨rfl, hu1⟩; have k_w1 := hu1.cells.1; have f_w1 := hu1.cells.2; have z_w1 := hu1.size; (try simp at z_w1); have l0_w1 : w.heap.size < w1.heap.size := (by omega); have l1_w1 : w.heap.size + 1 < w1.heap.size := (by omega)))
    | (go_at_call 15; ((with_reducible refine (isNumber_calls k' x' a' n' s' _).mono ?_); rw [HN2.out]; rintro E w2 ⟨rfl, hu2⟩; have k_w2 := hu2.cells.1; have f_w2 := hu2.cells.2; have z_w2 := hu2.size; (try simp at z_w2); have l0_w2 : w.heap.size < w2.heap.size := (by omega); have l1_w2 : w.heap.size + 1 < w2.heap.size := (by omega))))
  have RX : Row w2 w.heap.size #[.int .i64 k, .bool x, .int .i64 a, .int .i64 n, .string s, .pointer none, .pointer none, .pointer none, .int .i64 0, .int .i64 0] := Row.up (Row.up (show Row ((w.alloc (.cells #[.int .i64 k, .bool x, .int .i64 a, .int .i64 n, .string s, .pointer none, .pointer none, .pointer none, .int .i64 0, .int .i64 0] 35)).alloc (.cells #[.int .i64 k', .bool x', .int .i64 a', .int .i64 n', .string s', .pointer none, .pointer none, .pointer none, .int .i64 0, .int .i64 0] 35)) _ _ by (repeat' (first | (with_reducible assumption) | (with_reducible refine Row.at _ _ ?_; (simp; done)) | (with_reducible refine Row.alloc ?_ _) | (with_reducible refine Row.drew ?_) | (with_reducible refine Row.drewN ?_ _) | (with_reducible refine Row.other ?_ (by first | (simp; done) | (simp; omega) | omega) _) | (with_reducible refine Row.up ?_ (by with_reducible assumption)) | (with_reducible refine Row.chg ?_ (by with_reducible assumption) (by first | (simp; done) | (simp; omega)))))) hu1) hu2
  have RY : Row w2 (w.heap.size + 1) #[.int .i64 k', .bool x', .int .i64 a', .int .i64 n', .string s', .pointer none, .pointer none, .pointer none, .int .i64 0, .int .i64 0] := Row.up (Row.up (show Row ((w.alloc (.cells #[.int .i64 k, .bool x, .int .i64 a, .int .i64 n, .string s, .pointer none, .pointer none, .pointer none, .int .i64 0, .int .i64 0] 35)).alloc (.cells #[.int .i64 k', .bool x', .int .i64 a', .int .i64 n', .string s', .pointer none, .pointer none, .pointer none, .int .i64 0, .int .i64 0] 35)) _ _ by (repeat' (first | (with_reducible assumption) | (with_reducible refine Row.at _ _ ?_; (simp; done)) | (with_reducible refine Row.alloc ?_ _) | (with_reducible refine Row.drew ?_) | (with_reducible refine Row.drewN ?_ _) | (with_reducible refine Row.other ?_ (by first | (simp; done) | (simp; omega) | omega) _) | (with_reducible refine Row.up ?_ (by with_reducible assumption)) | (with_reducible refine Row.chg ?_ (by with_reducible assumption) (by first | (simp; done) | (simp; omega)))))) hu1) hu2
  go_region_held3 (fun w' => w'.cell? ⟨w.heap.size, 0, none⟩ = some (.int .i64 k) ∧ w'.cell? ⟨w.heap.size, 1, none⟩ = some (.bool x) ∧ w'.cell? ⟨w.heap.size, 2, none⟩ = some (.int .i64 a) ∧ w'.cell? ⟨w.heap.size, 3, none⟩ = some (.int .i64 n) ∧ w'.cell? ⟨w.heap.size, 4, none⟩ = some (.string s) ∧ w'.cell? ⟨w.heap.size, 5, none⟩ = some (.pointer none) ∧ w'.cell? ⟨w.heap.size, 6, none⟩ = some (.pointer none) ∧ w'.cell? ⟨w.heap.size, 7, none⟩ = some (.pointer none) ∧ w'.cell? ⟨w.heap.size, 8, none⟩ = some (.int .i64 0) ∧ w'.cell? ⟨w.heap.size, 9, none⟩ = some (.int .i64 0) ∧ w'.cell? ⟨w.heap.size + 1, 0, none⟩ = some (.int .i64 k') ∧ w'.cell? ⟨w.heap.size + 1, 1, none⟩ = some (.bool x') ∧ w'.cell? ⟨w.heap.size + 1, 2, none⟩ = some (.int .i64 a') ∧ w'.cell? ⟨w.heap.size + 1, 3, none⟩ = some (.int .i64 n') ∧ w'.cell? ⟨w.heap.size + 1, 4, none⟩ = some (.string s') ∧ w'.cell? ⟨w.heap.size + 1, 5, none⟩ = some (.pointer none) ∧ w'.cell? ⟨w.heap.size + 1, 6, none⟩ = some (.pointer none) ∧ w'.cell? ⟨w.heap.size + 1, 7, none⟩ = some (.pointer none) ∧ w'.cell? ⟨w.heap.size + 1, 8, none⟩ = some (.int .i64 0) ∧ w'.cell? ⟨w.heap.size + 1, 9, none⟩ = some (.int .i64 0)) (first | exact ⟨RX9.cell 0 rfl, RX9.cell 1 rfl, RX9.cell 2 rfl, RX9.cell 3 rfl, RX9.cell 4 rfl, RX9.cell 5 rfl, RX9.cell 6 rfl, RX9.cell 7 rfl, RX9.cell 8 rfl, RX9.cell 9 rfl, RY9.cell 0 rfl, RY9.cell 1 rfl, RY9.cell 2 rfl, RY9.cell 3 rfl, RY9.cell 4 rfl, RY9.cell 5 rfl, RY9.cell 6 rfl, RY9.cell 7 rfl, RY9.cell 8 rfl, RY9.cell 9 rfl⟩ | exact ⟨RX5.cell 0 rfl, RX5.cell 1 rfl, RX5.cell 2 rfl, RX5.cell 3 rfl, RX5.cell 4 rfl, RX5.cell 5 rfl, RX5.cell 6 rfl, RX5.cell 7 rfl, RX5.cell 8 rfl, RX5.cell 9 rfl, RY5.cell 0 rfl, RY5.cell 1 rfl, RY5.cell 2 rfl, RY5.cell 3 rfl, RY5.cell 4 rfl, RY5.cell 5 rfl, RY5.cell 6 rfl, RY5.cell 7 rfl, RY5.cell 8 rfl, RY5.cell 9 rfl⟩ | exact ⟨RX4.cell 0 rfl, RX4.cell 1 rfl, RX4.cell 2 rfl, RX4.cell 3 rfl, RX4.cell 4 rfl, RX4.cell 5 rfl, RX4.cell 6 rfl, RX4.cell 7 rfl, RX4.cell 8 rfl, RX4.cell 9 rfl, RY4.cell 0 rfl, RY4.cell 1 rfl, RY4.cell 2 rfl, RY4.cell 3 rfl, RY4.cell 4 rfl, RY4.cell 5 rfl, RY4.cell 6 rfl, RY4.cell 7 rfl, RY4.cell 8 rfl, RY4.cell 9 rfl⟩ | exact ⟨RX3.cell 0 rfl, RX3.cell 1 rfl, RX3.cell 2 rfl, RX3.cell 3 rfl, RX3.cell 4 rfl, RX3.cell 5 rfl, RX3.cell 6 rfl, RX3.cell 7 rfl, RX3.cell 8 rfl, RX3.cell 9 rfl, RY3.cell 0 rfl, RY3.cell 1 rfl, RY3.cell 2 rfl, RY3.cell 3 rfl, RY3.cell 4 rfl, RY3.cell 5 rfl, RY3.cell 6 rfl, RY3.cell 7 rfl, RY3.cell 8 rfl, RY3.cell 9 rfl⟩ | exact ⟨RX.cell 0 rfl, RX.cell 1 rfl, RX.cell 2 rfl, RX.cell 3 rfl, RX.cell 4 rfl, RX.cell 5 rfl, RX.cell 6 rfl, RX.cell 7 rfl, RX.cell 8 rfl, RX.cell 9 rfl, RY.cell 0 rfl, RY.cell 1 rfl, RY.cell 2 rfl, RY.cell 3 rfl, RY.cell 4 rfl, RY.cell 5 rfl, RY.cell 6 rfl, RY.cell 7 rfl, RY.cell 8 rfl, RY.cell 9 rfl⟩ | go_keep) (first
    | (go_at_call 27; ((with_reducible refine (value_r k x a n s _ X HX.out b1 b2).mono ?_); rintro E w3 ⟨rfl, hu3⟩; have U3 : Up w2 w3 := (by (repeat' (first | (with_reducible exact Up.refl _) | (with_reducible assumption) | (with_reducible refine Up.alloc ?_ _) | (with_reducible refine Up.drew ?_) | (with_reducible refine Up.drewN ?_ _) | (with_reducible refine Up.setCell ?_ ?_ _) | (with_reducible refine Up.call ?_ (by with_reducible assumption)) | go_size))); have RX3 := RX.up U3; have RY3 := RY.up U3))
    | (go_at_call 27; ((with_reducible refine (value_r k' x' a' n' s' _ Y HY.out b1' b2').mono ?_); rintro E w4 ⟨rfl, hu4⟩; have U4 : Up w2 w4 := (by (repeat' (first | (with_reducible exact Up.refl _) | (with_reducible assumption) | (with_reducible refine Up.alloc ?_ _) | (with_reducible refine Up.drew ?_) | (with_reducible refine Up.drewN ?_ _) | (with_reducible refine Up.setCell ?_ ?_ _) | (with_reducible refine Up.call ?_ (by with_reducible assumption)) | go_size))); have RX4 := RX.up U4; have RY4 := RY.up U4))
    | (go_at_call 20; ((with_reducible refine (truth_r _ _).mono ?_); rintro E w5 ⟨rfl, hu5⟩; have U5 : Up w2 w5 := (by (repeat' (first | (with_reducible exact Up.refl _) | (with_reducible assumption) | (with_reducible refine Up.alloc ?_ _) | (with_reducible refine Up.drew ?_) | (with_reducible refine Up.drewN ?_ _) | (with_reducible refine Up.setCell ?_ ?_ _) | (with_reducible refine Up.call ?_ (by with_reducible assumption)) | go_size))); have RX5 := RX.up U5; have RY5 := RY.up U5))
    | (go_at_call 19; ((with_reducible refine (one_r _ _ _).mono ?_); rintro E w9 ⟨⟨v, rfl, hv⟩, hu9⟩; have HV := Lib.hid hv; clear hv; have U9 : Up w2 w9 := (by (repeat' (first | (with_reducible exact Up.refl _) | (with_reducible assumption) | (with_reducible refine Up.alloc ?_ _) | (with_reducible refine Up.drew ?_) | (with_reducible refine Up.drewN ?_ _) | (with_reducible refine Up.setCell ?_ ?_ _) | (with_reducible refine Up.call ?_ (by with_reducible assumption)) | go_size))); have RX9 := RX.up U9; have RY9 := RY.up U9)))
  all_goals go_wp2
  all_goals
    go_ret2
    exact ⟨⟨v, rfl, HV.out.of_up (by (repeat' (first | (with_reducible exact Up.refl _) | (with_reducible assumption) | (with_reducible refine Up.alloc ?_ _) | (with_reducible refine Up.drew ?_) | (with_reducible refine Up.drewN ?_ _) | (with_reducible refine Up.setCell ?_ ?_ _) | (with_reducible refine Up.call ?_ (by with_reducible assumption)) | go_size)))⟩, by (repeat' (first | (with_reducible exact Up.refl _) | (with_reducible assumption) | (with_reducible refine Up.alloc ?_ _) | (with_reducible refine Up.drew ?_) | (with_reducible refine Up.drewN ?_ _) | (with_reducible refine Up.setCell ?_ ?_ _) | (with_reducible refine Up.call ?_ (by with_reducible assumption)) | go_size))⟩

end Go.Proofs.YtakickodehebmaaDoor.Ar
end
