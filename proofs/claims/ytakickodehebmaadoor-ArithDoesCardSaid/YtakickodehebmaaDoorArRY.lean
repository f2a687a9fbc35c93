/- The reference's Arith: add. The reference's Arith: sub. The reference's Arith: mul. -/
import Derived.Test.YtakickodehebmaaDoorArRD
section
namespace Go.Proofs.YtakickodehebmaaDoor.Ar
open Go.ChangeShapes Go.WideShapes Go.ChangeAt Go.RowKit
open Go.Proofs.YtakickodehebmaaDoor.FixM (fits within)
open Go.Proofs.YtakickodehebmaaDoor.ArM
set_option linter.unusedVariables false
set_option linter.unusedSimpArgs false

set_option maxRecDepth 100000 in
set_option maxHeartbeats 4000000 in
theorem arith_10 (k : Int) (x : Bool) (a n : Int) (s : ByteArray) (k' : Int) (x' : Bool) (a' n' : Int) (s' : ByteArray) (g cp : Nat) (w : World) (R : Cs w g #[.int .i64 k, .bool x, .int .i64 a, .int .i64 n, .string s, .pointer none, .pointer none, .pointer none, .int .i64 0, .int .i64 0, .int .i64 k', .bool x', .int .i64 a', .int .i64 n', .string s', .pointer none, .pointer none, .pointer none, .int .i64 0, .int .i64 0]) (hg : g < w.heap.size) (rk rn re : Int) (hR : bin 10 k n k' n' = (rk, rn, re)) :
    Calls Tryd.prog 12 #[.string ⟨#[97, 100, 100]⟩, .slice (some ⟨g, 0, none⟩) 2 cp] w fun E w' => GivesR w rk rn re E w' ∧ Up w w' := by
  have hg1 : g < w.heap.size + 1 := by omega
  have hg2 : g < w.heap.size + 1 + 1 := by omega
  have hgn : ¬ w.heap.size = g := by omega
  have hgn1 : ¬ w.heap.size + 1 = g := by omega
  have c0 := R 0 _ rfl
  have c1 := R 1 _ rfl
  have c2 := R 2 _ rfl
  have c3 := R 3 _ rfl
  have c4 := R 4 _ rfl
  have c5 := R 5 _ rfl
  have c6 := R 6 _ rfl
  have c7 := R 7 _ rfl
  have c8 := R 8 _ rfl
  have c9 := R 9 _ rfl
  have c10 := R 10 _ rfl
  have c11 := R 11 _ rfl
  have c12 := R 12 _ rfl
  have c13 := R 13 _ rfl
  have c14 := R 14 _ rfl
  have c15 := R 15 _ rfl
  have c16 := R 16 _ rfl
  have c17 := R 17 _ rfl
  have c18 := R 18 _ rfl
  have c19 := R 19 _ rfl
  clear R
  cases hN : numb k n
  · obtain ⟨rfl, rfl, rfl⟩ : 0 = rk ∧ 0 = rn ∧ 16 = re := by simpa [bin, hN, tcheck] using hR
    have HN := Lib.hid hN
    clear hN hR
    go_enter Tryd.func12, Tryd.ntmps12
    go_wp2_with (first
      | (go_at_call 15; ((with_reducible refine (isNumber_calls k x a n s _).mono ?_); rw [HN.out]; rintro E w1 ⟨rfl, hu1⟩; have k_w1 := hu1.cells.1; have f_w1 := hu1.cells.2; have z_w1 := hu1.size; (try simp at z_w1); have l0_w1 : w.heap.size < w1.heap.size := (by omega); have l1_w1 : w.heap.size + 1 < w1.heap.size := (by omega))))
    go_ret2
    exact ⟨⟨_, rfl, Or.inr ⟨by decide, rfl⟩⟩, by (repeat' (first | (with_reducible exact Up.refl _) | (with_reducible assumption) | (with_reducible refine Up.alloc ?_ _) | (with_reducible refine Up.drew ?_) | (with_reducible refine Up.drewN ?_ _) | (with_reducible refine Up.setCell ?_ ?_ _) | (with_reducible refine Up.call ?_ (by with_reducible assumption)) | go_size))⟩
  cases hN2 : numb k' n'
  · obtain ⟨rfl, rfl, rfl⟩ : 0 = rk ∧ 0 = rn ∧ 16 = re := by simpa [bin, hN, hN2, tcheck] using hR
    have HN := Lib.hid hN
    have HN2 := Lib.hid hN2
    clear hN hN2 hR
    go_enter Tryd.func12, Tryd.ntmps12
    go_wp2_with (first
      | (go_at_call 15; ((with_reducible refine (isNumber_calls k x a n s _).mono ?_); rw [HN.out]; rintro E w1 ⟨rfl, hu1⟩; have k_w1 := hu1.cells.1; have f_w1 := hu1.cells.2; have z_w1 := hu1.size; (try simp at z_w1); have l0_w1 : w.heap.size < w1.heap.size := (by omega); have l1_w1 : w.heap.size + 1 < w1.heap.size := (by omega)))
      | (go_at_call 15; ((with_reducible refine (isNumber_calls k' x' a' n' s' _).mono ?_); rw [HN2.out]; rintro E w2 ⟨rfl, hu2⟩; have k_w2 := hu2.cells.1; have f_w2 := hu2.cells.2; have z_w2 := hu2.size; (try simp at z_w2); have l0_w2 : w.heap.size < w2.heap.size := (by omega); have l1_w2 : w.heap.size + 1 < w2.heap.size := (by omega))))
    go_ret2
    exact ⟨⟨_, rfl, Or.inr ⟨by decide, rfl⟩⟩, by (repeat' (first | (with_reducible exact Up.refl _) | (with_reducible assumption) | (with_reducible refine Up.alloc ?_ _) | (with_reducible refine Up.drew ?_) | (with_reducible refine Up.drewN ?_ _) | (with_reducible refine Up.setCell ?_ ?_ _) | (with_reducible refine Up.call ?_ (by with_reducible assumption)) | go_size))⟩
  obtain ⟨hk, b1, b2⟩ := numb_fits hN
  obtain ⟨hk', b1', b2'⟩ := numb_fits hN2
  have hS : sums 10 k n k' n' = (rk, rn, re) := by simpa [bin, hN, hN2] using hR
  have HN := Lib.hid hN
  have HN2 := Lib.hid hN2
  clear hR
  by_cases h1 : k = 1
  · subst h1
    by_cases h1' : k' = 1
    · subst h1'
      have i1 : isI 1 n = true := by simpa [isI, numb] using hN
      have i2 : isI 1 n' = true := by simpa [isI, numb] using hN2
      clear hN hN2 hk hk'
      obtain ⟨m, hm, m1, m2⟩ : ∃ m, n + n' = m ∧ -4611686018427387904 ≤ m ∧ m ≤ 4611686018427387904 := ⟨_, rfl, by omega, by omega⟩
      cases hf : fits m
      · have HF := Lib.hid hf
        have HM := Lib.hid hm
        have hx : exactI 10 n n' = m := by rw [← hm]; rfl
        obtain ⟨p, q, hp⟩ : ∃ p q, asReal 1 n = (p, q) := ⟨_, _, rfl⟩
        obtain ⟨p', q', hp'⟩ : ∃ p q, asReal 1 n' = (p, q) := ⟨_, _, rfl⟩
        by_cases hq : q = 0
        · subst hq
          by_cases hq' : q' = 0
          · subst hq'
            have hG : real ((FixM.add p p').1, (FixM.add p p').2) = (rk, rn, re) := by rw [← hS]; simp [sums, hx, hf, hp, hp', inexactI]
            have HG := Lib.hid hG
            have HP := Lib.hid hp
            have HP2 := Lib.hid hp'
            clear hS hG hp hp'
            go_enter Tryd.func12, Tryd.ntmps12
            go_wp2_with (first
              | (go_at_call 15; ((with_reducible refine (isNumber_calls 1 x a n s _).mono ?_); rw [HN.out]; rintro E w1 ⟨rfl, hu1⟩; have k_w1 := hu1.cells.1; have f_w1 := hu1.cells.2; have z_w1 := hu1.size; (try simp at z_w1); have l0_w1 : w.heap.size < w1.heap.size := (by omega); have l1_w1 : w.heap.size + 1 < w1.heap.size := (by omega)))
              | (go_at_call 15; ((with_reducible refine (isNumber_calls 1 x' a' n' s' _).mono ?_); rw [HN2.out]; rintro E w2 ⟨rfl, hu2⟩; have k_w2 := hu2.cells.1; have f_w2 := hu2.cells.2; have z_w2 := hu2.size; (try simp at z_w2); have l0_w2 : w.heap.size < w2.heap.size := (by omega); have l1_w2 : w.heap.size + 1 < w2.heap.size := (by omega)))
              | (go_at_call 28; ((with_reducible refine (small_r _ _).mono ?_); rw [HF.out]; rintro E w5 ⟨rfl, rfl⟩))
              | (go_at_call 29; ((with_reducible refine (asReal_r 1 x a n s _ p 0 HP.out).mono ?_); rintro E w3 ⟨rfl, hu3⟩; have k_w3 := hu3.cells.1; have f_w3 := hu3.cells.2; have z_w3 := hu3.size; (try simp at z_w3); have l0_w3 : w.heap.size < w3.heap.size := (by omega); have l1_w3 : w.heap.size + 1 < w3.heap.size := (by omega)))
              | (go_at_call 29; ((with_reducible refine (asReal_r 1 x' a' n' s' _ p' 0 HP2.out).mono ?_); rintro E w4 ⟨rfl, hu4⟩; have k_w4 := hu4.cells.1; have f_w4 := hu4.cells.2; have z_w4 := hu4.size; (try simp at z_w4); have l0_w4 : w.heap.size < w4.heap.size := (by omega); have l1_w4 : w.heap.size + 1 < w4.heap.size := (by omega)))
              | (go_at_call 31; ((with_reducible refine (Rfix.add_calls _ _ _).mono ?_); rintro E w6 ⟨rfl, hu6⟩))
              | (go_at_call 30; ((with_reducible refine (gives_r _ _ rk rn re HG.out _).mono ?_); rintro E w7 ⟨⟨v, rfl, hv⟩, hu7⟩; have HV := Lib.hid hv; clear hv)))
            go_ret2
            exact ⟨⟨v, rfl, HV.out.of_up (by (repeat' (first | (with_reducible exact Up.refl _) | (with_reducible assumption) | (with_reducible refine Up.alloc ?_ _) | (with_reducible refine Up.drew ?_) | (with_reducible refine Up.drewN ?_ _) | (with_reducible refine Up.setCell ?_ ?_ _) | (with_reducible refine Up.call ?_ (by with_reducible assumption)) | go_size)))⟩, by (repeat' (first | (with_reducible exact Up.refl _) | (with_reducible assumption) | (with_reducible refine Up.alloc ?_ _) | (with_reducible refine Up.drew ?_) | (with_reducible refine Up.drewN ?_ _) | (with_reducible refine Up.setCell ?_ ?_ _) | (with_reducible refine Up.call ?_ (by with_reducible assumption)) | go_size))⟩
          · obtain ⟨rfl, rfl, rfl⟩ : 0 = rk ∧ 0 = rn ∧ q' = re := by simpa [sums, hx, hf, hp, hp', hq'] using hS
            have dq : (q' == 0) = false := by simpa using hq'
            have HQ := Lib.hid hq'
            have HP := Lib.hid hp
            have HP2 := Lib.hid hp'
            clear hS hp hp' hq'
            go_enter Tryd.func12, Tryd.ntmps12
            go_wp2_with (first
              | (go_at_call 15; ((with_reducible refine (isNumber_calls 1 x a n s _).mono ?_); rw [HN.out]; rintro E w1 ⟨rfl, hu1⟩; have k_w1 := hu1.cells.1; have f_w1 := hu1.cells.2; have z_w1 := hu1.size; (try simp at z_w1); have l0_w1 : w.heap.size < w1.heap.size := (by omega); have l1_w1 : w.heap.size + 1 < w1.heap.size := (by omega)))
              | (go_at_call 15; ((with_reducible refine (isNumber_calls 1 x' a' n' s' _).mono ?_); rw [HN2.out]; rintro E w2 ⟨rfl, hu2⟩; have k_w2 := hu2.cells.1; have f_w2 := hu2.cells.2; have z_w2 := hu2.size; (try simp at z_w2); have l0_w2 : w.heap.size < w2.heap.size := (by omega); have l1_w2 : w.heap.size + 1 < w2.heap.size := (by omega)))
              | (go_at_call 28; ((with_reducible refine (small_r _ _).mono ?_); rw [HF.out]; rintro E w5 ⟨rfl, rfl⟩))
              | (go_at_call 29; ((with_reducible refine (asReal_r 1 x a n s _ p 0 HP.out).mono ?_); rintro E w3 ⟨rfl, hu3⟩; have k_w3 := hu3.cells.1; have f_w3 := hu3.cells.2; have z_w3 := hu3.size; (try simp at z_w3); have l0_w3 : w.heap.size < w3.heap.size := (by omega); have l1_w3 : w.heap.size + 1 < w3.heap.size := (by omega)))
              | (go_at_call 29; ((with_reducible refine (asReal_r 1 x' a' n' s' _ p' q' HP2.out).mono ?_); rintro E w4 ⟨rfl, hu4⟩; have k_w4 := hu4.cells.1; have f_w4 := hu4.cells.2; have z_w4 := hu4.size; (try simp at z_w4); have l0_w4 : w.heap.size < w4.heap.size := (by omega); have l1_w4 : w.heap.size + 1 < w4.heap.size := (by omega))))
            go_ret2
            exact ⟨⟨_, rfl, Or.inr ⟨HQ.out, rfl⟩⟩, by (repeat' (first | (with_reducible exact Up.refl _) | (with_reducible assumption) | (with_reducible refine Up.alloc ?_ _) | (with_reducible refine Up.drew ?_) | (with_reducible refine Up.drewN ?_ _) | (with_reducible refine Up.setCell ?_ ?_ _) | (with_reducible refine Up.call ?_ (by with_reducible assumption)) | go_size))⟩
        · obtain ⟨rfl, rfl, rfl⟩ : 0 = rk ∧ 0 = rn ∧ q = re := by simpa [sums, hx, hf, hp, hp', hq] using hS
          have dq : (q == 0) = false := by simpa using hq
          have HQ := Lib.hid hq
          have HP := Lib.hid hp
          clear hS hp hp' hq
          go_enter Tryd.func12, Tryd.ntmps12
          go_wp2_with (first
            | (go_at_call 15; ((with_reducible refine (isNumber_calls 1 x a n s _).mono ?_); rw [HN.out]; rintro E w1 ⟨rfl, hu1⟩; have k_w1 := hu1.cells.1; have f_w1 := hu1.cells.2; have z_w1 := hu1.size; (try simp at z_w1); have l0_w1 : w.heap.size < w1.heap.size := (by omega); have l1_w1 : w.heap.size + 1 < w1.heap.size := (by omega)))
            | (go_at_call 15; ((with_reducible refine (isNumber_calls 1 x' a' n' s' _).mono ?_); rw [HN2.out]; rintro E w2 ⟨rfl, hu2⟩; have k_w2 := hu2.cells.1; have f_w2 := hu2.cells.2; have z_w2 := hu2.size; (try simp at z_w2); have l0_w2 : w.heap.size < w2.heap.size := (by omega); have l1_w2 : w.heap.size + 1 < w2.heap.size := (by omega)))
            | (go_at_call 28; ((with_reducible refine (small_r _ _).mono ?_); rw [HF.out]; rintro E w5 ⟨rfl, rfl⟩))
            | (go_at_call 29; ((with_reducible refine (asReal_r 1 x a n s _ p q HP.out).mono ?_); rintro E w3 ⟨rfl, hu3⟩; have k_w3 := hu3.cells.1; have f_w3 := hu3.cells.2; have z_w3 := hu3.size; (try simp at z_w3); have l0_w3 : w.heap.size < w3.heap.size := (by omega); have l1_w3 : w.heap.size + 1 < w3.heap.size := (by omega))))
          go_ret2
          exact ⟨⟨_, rfl, Or.inr ⟨HQ.out, rfl⟩⟩, by (repeat' (first | (with_reducible exact Up.refl _) | (with_reducible assumption) | (with_reducible refine Up.alloc ?_ _) | (with_reducible refine Up.drew ?_) | (with_reducible refine Up.drewN ?_ _) | (with_reducible refine Up.setCell ?_ ?_ _) | (with_reducible refine Up.call ?_ (by with_reducible assumption)) | go_size))⟩
      · obtain ⟨rfl, rfl, rfl⟩ : 1 = rk ∧ m = rn ∧ 0 = re := by simpa [sums, i1, i2, exactI, hm, hf] using hS
        have HF := Lib.hid hf
        clear hS i1 i2 hf
        go_enter Tryd.func12, Tryd.ntmps12
        go_wp2_with (first
          | (go_at_call 15; ((with_reducible refine (isNumber_calls 1 x a n s _).mono ?_); rw [HN.out]; rintro E w1 ⟨rfl, hu1⟩; have k_w1 := hu1.cells.1; have f_w1 := hu1.cells.2; have z_w1 := hu1.size; (try simp at z_w1); have l0_w1 : w.heap.size < w1.heap.size := (by omega); have l1_w1 : w.heap.size + 1 < w1.heap.size := (by omega)))
          | (go_at_call 15; ((with_reducible refine (isNumber_calls 1 x' a' n' s' _).mono ?_); rw [HN2.out]; rintro E w2 ⟨rfl, hu2⟩; have k_w2 := hu2.cells.1; have f_w2 := hu2.cells.2; have z_w2 := hu2.size; (try simp at z_w2); have l0_w2 : w.heap.size < w2.heap.size := (by omega); have l1_w2 : w.heap.size + 1 < w2.heap.size := (by omega)))
          | (go_at_call 28; ((with_reducible refine (small_r _ _).mono ?_); rw [HF.out]; rintro E w5 ⟨rfl, rfl⟩))
          | (go_at_call 22; ((with_reducible refine (whole_r _ _).mono ?_); rintro E w8 ⟨rfl, hu8⟩))
          | (go_at_call 19; ((with_reducible refine (one_r 1 m _).mono ?_); rintro E w9 ⟨⟨v, rfl, hv⟩, hu9⟩; have HV := Lib.hid hv; clear hv)))
        go_ret2
        exact ⟨⟨v, rfl, HV.out.of_up (by (repeat' (first | (with_reducible exact Up.refl _) | (with_reducible assumption) | (with_reducible refine Up.alloc ?_ _) | (with_reducible refine Up.drew ?_) | (with_reducible refine Up.drewN ?_ _) | (with_reducible refine Up.setCell ?_ ?_ _) | (with_reducible refine Up.call ?_ (by with_reducible assumption)) | go_size)))⟩, by (repeat' (first | (with_reducible exact Up.refl _) | (with_reducible assumption) | (with_reducible refine Up.alloc ?_ _) | (with_reducible refine Up.drew ?_) | (with_reducible refine Up.drewN ?_ _) | (with_reducible refine Up.setCell ?_ ?_ _) | (with_reducible refine Up.call ?_ (by with_reducible assumption)) | go_size))⟩
    · have d1' : (k' == 1) = false := by simpa using h1'
      have i2 : isI k' n' = false := by simp [isI, h1']
      clear hN hN2 hk hk' h1'
      obtain ⟨p, q, hp⟩ : ∃ p q, asReal 1 n = (p, q) := ⟨_, _, rfl⟩
      obtain ⟨p', q', hp'⟩ : ∃ p q, asReal k' n' = (p, q) := ⟨_, _, rfl⟩
      by_cases hq : q = 0
      · subst hq
        by_cases hq' : q' = 0
        · subst hq'
          have hG : real ((FixM.add p p').1, (FixM.add p p').2) = (rk, rn, re) := by rw [← hS]; simp [sums, i2, hp, hp', inexactI]
          have HG := Lib.hid hG
          have HP := Lib.hid hp
          have HP2 := Lib.hid hp'
          clear hS hG hp hp'
          go_enter Tryd.func12, Tryd.ntmps12
          go_wp2_with (first
            | (go_at_call 15; ((with_reducible refine (isNumber_calls 1 x a n s _).mono ?_); rw [HN.out]; rintro E w1 ⟨rfl, hu1⟩; have k_w1 := hu1.cells.1; have f_w1 := hu1.cells.2; have z_w1 := hu1.size; (try simp at z_w1); have l0_w1 : w.heap.size < w1.heap.size := (by omega); have l1_w1 : w.heap.size + 1 < w1.heap.size := (by omega)))
            | (go_at_call 15; ((with_reducible refine (isNumber_calls k' x' a' n' s' _).mono ?_); rw [HN2.out]; rintro E w2 ⟨rfl, hu2⟩; have k_w2 := hu2.cells.1; have f_w2 := hu2.cells.2; have z_w2 := hu2.size; (try simp at z_w2); have l0_w2 : w.heap.size < w2.heap.size := (by omega); have l1_w2 : w.heap.size + 1 < w2.heap.size := (by omega)))
            | (go_at_call 29; ((with_reducible refine (asReal_r 1 x a n s _ p 0 HP.out).mono ?_); rintro E w3 ⟨rfl, hu3⟩; have k_w3 := hu3.cells.1; have f_w3 := hu3.cells.2; have z_w3 := hu3.size; (try simp at z_w3); have l0_w3 : w.heap.size < w3.heap.size := (by omega); have l1_w3 : w.heap.size + 1 < w3.heap.size := (by omega)))
            | (go_at_call 29; ((with_reducible refine (asReal_r k' x' a' n' s' _ p' 0 HP2.out).mono ?_); rintro E w4 ⟨rfl, hu4⟩; have k_w4 := hu4.cells.1; have f_w4 := hu4.cells.2; have z_w4 := hu4.size; (try simp at z_w4); have l0_w4 : w.heap.size < w4.heap.size := (by omega); have l1_w4 : w.heap.size + 1 < w4.heap.size := (by omega)))
            | (go_at_call 31; ((with_reducible refine (Rfix.add_calls _ _ _).mono ?_); rintro E w6 ⟨rfl, hu6⟩))
            | (go_at_call 30; ((with_reducible refine (gives_r _ _ rk rn re HG.out _).mono ?_); rintro E w7 ⟨⟨v, rfl, hv⟩, hu7⟩; have HV := Lib.hid hv; clear hv)))
          go_ret2
          exact ⟨⟨v, rfl, HV.out.of_up (by (repeat' (first | (with_reducible exact Up.refl _) | (with_reducible assumption) | (with_reducible refine Up.alloc ?_ _) | (with_reducible refine Up.drew ?_) | (with_reducible refine Up.drewN ?_ _) | (with_reducible refine Up.setCell ?_ ?_ _) | (with_reducible refine Up.call ?_ (by with_reducible assumption)) | go_size)))⟩, by (repeat' (first | (with_reducible exact Up.refl _) | (with_reducible assumption) | (with_reducible refine Up.alloc ?_ _) | (with_reducible refine Up.drew ?_) | (with_reducible refine Up.drewN ?_ _) | (with_reducible refine Up.setCell ?_ ?_ _) | (with_reducible refine Up.call ?_ (by with_reducible assumption)) | go_size))⟩
        · obtain ⟨rfl, rfl, rfl⟩ : 0 = rk ∧ 0 = rn ∧ q' = re := by simpa [sums, i2, hp, hp', hq'] using hS
          have dq : (q' == 0) = false := by simpa using hq'
          have HQ := Lib.hid hq'
          have HP := Lib.hid hp
          have HP2 := Lib.hid hp'
          clear hS hp hp' hq'
          go_enter Tryd.func12, Tryd.ntmps12
          go_wp2_with (first
            | (go_at_call 15; ((with_reducible refine (isNumber_calls 1 x a n s _).mono ?_); rw [HN.out]; rintro E w1 ⟨rfl, hu1⟩; have k_w1 := hu1.cells.1; have f_w1 := hu1.cells.2; have z_w1 := hu1.size; (try simp at z_w1); have l0_w1 : w.heap.size < w1.heap.size := (by omega); have l1_w1 : w.heap.size + 1 < w1.heap.size := (by omega)))
            | (go_at_call 15; ((with_reducible refine (isNumber_calls k' x' a' n' s' _).mono ?_); rw [HN2.out]; rintro E w2 ⟨rfl, hu2⟩; have k_w2 := hu2.cells.1; have f_w2 := hu2.cells.2; have z_w2 := hu2.size; (try simp at z_w2); have l0_w2 : w.heap.size < w2.heap.size := (by omega); have l1_w2 : w.heap.size + 1 < w2.heap.size := (by omega)))
            | (go_at_call 29; ((with_reducible refine (asReal_r 1 x a n s _ p 0 HP.out).mono ?_); rintro E w3 ⟨rfl, hu3⟩; have k_w3 := hu3.cells.1; have f_w3 := hu3.cells.2; have z_w3 := hu3.size; (try simp at z_w3); have l0_w3 : w.heap.size < w3.heap.size := (by omega); have l1_w3 : w.heap.size + 1 < w3.heap.size := (by omega)))
            | (go_at_call 29; ((with_reducible refine (asReal_r k' x' a' n' s' _ p' q' HP2.out).mono ?_); rintro E w4 ⟨rfl, hu4⟩; have k_w4 := hu4.cells.1; have f_w4 := hu4.cells.2; have z_w4 := hu4.size; (try simp at z_w4); have l0_w4 : w.heap.size < w4.heap.size := (by omega); have l1_w4 : w.heap.size + 1 < w4.heap.size := (by omega))))
          go_ret2
          exact ⟨⟨_, rfl, Or.inr ⟨HQ.out, rfl⟩⟩, by (repeat' (first | (with_reducible exact Up.refl _) | (with_reducible assumption) | (with_reducible refine Up.alloc ?_ _) | (with_reducible refine Up.drew ?_) | (with_reducible refine Up.drewN ?_ _) | (with_reducible refine Up.setCell ?_ ?_ _) | (with_reducible refine Up.call ?_ (by with_reducible assumption)) | go_size))⟩
      · obtain ⟨rfl, rfl, rfl⟩ : 0 = rk ∧ 0 = rn ∧ q = re := by simpa [sums, i2, hp, hp', hq] using hS
        have dq : (q == 0) = false := by simpa using hq
        have HQ := Lib.hid hq
        have HP := Lib.hid hp
        clear hS hp hp' hq
        go_enter Tryd.func12, Tryd.ntmps12
        go_wp2_with (first
          | (go_at_call 15; ((with_reducible refine (isNumber_calls 1 x a n s _).mono ?_); rw [HN.out]; rintro E w1 ⟨rfl, hu1⟩; have k_w1 := hu1.cells.1; have f_w1 := hu1.cells.2; have z_w1 := hu1.size; (try simp at z_w1); have l0_w1 : w.heap.size < w1.heap.size := (by omega); have l1_w1 : w.heap.size + 1 < w1.heap.size := (by omega)))
          | (go_at_call 15; ((with_reducible refine (isNumber_calls k' x' a' n' s' _).mono ?_); rw [HN2.out]; rintro E w2 ⟨rfl, hu2⟩; have k_w2 := hu2.cells.1; have f_w2 := hu2.cells.2; have z_w2 := hu2.size; (try simp at z_w2); have l0_w2 : w.heap.size < w2.heap.size := (by omega); have l1_w2 : w.heap.size + 1 < w2.heap.size := (by omega)))
          | (go_at_call 29; ((with_reducible refine (asReal_r 1 x a n s _ p q HP.out).mono ?_); rintro E w3 ⟨rfl, hu3⟩; have k_w3 := hu3.cells.1; have f_w3 := hu3.cells.2; have z_w3 := hu3.size; (try simp at z_w3); have l0_w3 : w.heap.size < w3.heap.size := (by omega); have l1_w3 : w.heap.size + 1 < w3.heap.size := (by omega))))
        go_ret2
        exact ⟨⟨_, rfl, Or.inr ⟨HQ.out, rfl⟩⟩, by (repeat' (first | (with_reducible exact Up.refl _) | (with_reducible assumption) | (with_reducible refine Up.alloc ?_ _) | (with_reducible refine Up.drew ?_) | (with_reducible refine Up.drewN ?_ _) | (with_reducible refine Up.setCell ?_ ?_ _) | (with_reducible refine Up.call ?_ (by with_reducible assumption)) | go_size))⟩
  · have d1 : (k == 1) = false := by simpa using h1
    have i1 : isI k n = false := by simp [isI, h1]
    clear hN hN2 hk hk' h1
    obtain ⟨p, q, hp⟩ : ∃ p q, asReal k n = (p, q) := ⟨_, _, rfl⟩
    obtain ⟨p', q', hp'⟩ : ∃ p q, asReal k' n' = (p, q) := ⟨_, _, rfl⟩
    by_cases hq : q = 0
    · subst hq
      by_cases hq' : q' = 0
      · subst hq'
        have hG : real ((FixM.add p p').1, (FixM.add p p').2) = (rk, rn, re) := by rw [← hS]; simp [sums, i1, hp, hp', inexactI]
        have HG := Lib.hid hG
        have HP := Lib.hid hp
        have HP2 := Lib.hid hp'
        clear hS hG hp hp'
        go_enter Tryd.func12, Tryd.ntmps12
        go_wp2_with (first
          | (go_at_call 15; ((with_reducible refine (isNumber_calls k x a n s _).mono ?_); rw [HN.out]; rintro E w1 ⟨rfl, hu1⟩; have k_w1 := hu1.cells.1; have f_w1 := hu1.cells.2; have z_w1 := hu1.size; (try simp at z_w1); have l0_w1 : w.heap.size < w1.heap.size := (by omega); have l1_w1 : w.heap.size + 1 < w1.heap.size := (by omega)))
          | (go_at_call 15; ((with_reducible refine (isNumber_calls k' x' a' n' s' _).mono ?_); rw [HN2.out]; rintro E w2 ⟨rfl, hu2⟩; have k_w2 := hu2.cells.1; have f_w2 := hu2.cells.2; have z_w2 := hu2.size; (try simp at z_w2); have l0_w2 : w.heap.size < w2.heap.size := (by omega); have l1_w2 : w.heap.size + 1 < w2.heap.size := (by omega)))
          | (go_at_call 29; ((with_reducible refine (asReal_r k x a n s _ p 0 HP.out).mono ?_); rintro E w3 ⟨rfl, hu3⟩; have k_w3 := hu3.cells.1; have f_w3 := hu3.cells.2; have z_w3 := hu3.size; (try simp at z_w3); have l0_w3 : w.heap.size < w3.heap.size := (by omega); have l1_w3 : w.heap.size + 1 < w3.heap.size := (by omega)))
          | (go_at_call 29; ((with_reducible refine (asReal_r k' x' a' n' s' _ p' 0 HP2.out).mono ?_); rintro E w4 ⟨rfl, hu4⟩; have k_w4 := hu4.cells.1; have f_w4 := hu4.cells.2; have z_w4 := hu4.size; (try simp at z_w4); have l0_w4 : w.heap.size < w4.heap.size := (by omega); have l1_w4 : w.heap.size + 1 < w4.heap.size := (by omega)))
          | (go_at_call 31; ((with_reducible refine (Rfix.add_calls _ _ _).mono ?_); rintro E w6 ⟨rfl, hu6⟩))
          | (go_at_call 30; ((with_reducible refine (gives_r _ _ rk rn re HG.out _).mono ?_); rintro E w7 ⟨⟨v, rfl, hv⟩, hu7⟩; have HV := Lib.hid hv; clear hv)))
        go_ret2
        exact ⟨⟨v, rfl, HV.out.of_up (by (repeat' (first | (with_reducible exact Up.refl _) | (with_reducible assumption) | (with_reducible refine Up.alloc ?_ _) | (with_reducible refine Up.drew ?_) | (with_reducible refine Up.drewN ?_ _) | (with_reducible refine Up.setCell ?_ ?_ _) | (with_reducible refine Up.call ?_ (by with_reducible assumption)) | go_size)))⟩, by (repeat' (first | (with_reducible exact Up.refl _) | (with_reducible assumption) | (with_reducible refine Up.alloc ?_ _) | (with_reducible refine Up.drew ?_) | (with_reducible refine Up.drewN ?_ _) | (with_reducible refine Up.setCell ?_ ?_ _) | (with_reducible refine Up.call ?_ (by with_reducible assumption)) | go_size))⟩
      · obtain ⟨rfl, rfl, rfl⟩ : 0 = rk ∧ 0 = rn ∧ q' = re := by simpa [sums, i1, hp, hp', hq'] using hS
        have dq : (q' == 0) = false := by simpa using hq'
        have HQ := Lib.hid hq'
        have HP := Lib.hid hp
        have HP2 := Lib.hid hp'
        clear hS hp hp' hq'
        go_enter Tryd.func12, Tryd.ntmps12
        go_wp2_with (first
          | (go_at_call 15; ((with_reducible refine (isNumber_calls k x a n s _).mono ?_); rw [HN.out]; rintro E w1 ⟨rfl, hu1⟩; have k_w1 := hu1.cells.1; have f_w1 := hu1.cells.2; have z_w1 := hu1.size; (try simp at z_w1); have l0_w1 : w.heap.size < w1.heap.size := (by omega); have l1_w1 : w.heap.size + 1 < w1.heap.size := (by omega)))
          | (go_at_call 15; ((with_reducible refine (isNumber_calls k' x' a' n' s' _).mono ?_); rw [HN2.out]; rintro E w2 ⟨rfl, hu2⟩; have k_w2 := hu2.cells.1; have f_w2 := hu2.cells.2; have z_w2 := hu2.size; (try simp at z_w2); have l0_w2 : w.heap.size < w2.heap.size := (by omega); have l1_w2 : w.heap.size + 1 < w2.heap.size := (by omega)))
          | (go_at_call 29; ((with_reducible refine (asReal_r k x a n s _ p 0 HP.out).mono ?_); rintro E w3 ⟨rfl, hu3⟩; have k_w3 := hu3.cells.1; have f_w3 := hu3.cells.2; have z_w3 := hu3.size; (try simp at z_w3); have l0_w3 : w.heap.size < w3.heap.size := (by omega); have l1_w3 : w.heap.size + 1 < w3.heap.size := (by omega)))
          | (go_at_call 29; ((with_reducible refine (asReal_r k' x' a' n' s' _ p' q' HP2.out).mono ?_); rintro E w4 ⟨rfl, hu4⟩; have k_w4 := hu4.cells.1; have f_w4 := hu4.cells.2; have z_w4 := hu4.size; (try simp at z_w4); have l0_w4 : w.heap.size < w4.heap.size := (by omega); have l1_w4 : w.heap.size + 1 < w4.heap.size := (by omega))))
        go_ret2
        exact ⟨⟨_, rfl, Or.inr ⟨HQ.out, rfl⟩⟩, by (repeat' (first | (with_reducible exact Up.refl _) | (with_reducible assumption) | (with_reducible refine Up.alloc ?_ _) | (with_reducible refine Up.drew ?_) | (with_reducible refine Up.drewN ?_ _) | (with_reducible refine Up.setCell ?_ ?_ _) | (with_reducible refine Up.call ?_ (by with_reducible assumption)) | go_size))⟩
    · obtain ⟨rfl, rfl, rfl⟩ : 0 = rk ∧ 0 = rn ∧ q = re := by simpa [sums, i1, hp, hp', hq] using hS
      have dq : (q == 0) = false := by simpa using hq
      have HQ := Lib.hid hq
      have HP := Lib.hid hp
      clear hS hp hp' hq
      go_enter Tryd.func12, Tryd.ntmps12
      go_wp2_with (first
        | (go_at_call 15; ((with_reducible refine (isNumber_calls k x a n s _).mono ?_); rw [HN.out]; rintro E w1 ⟨rfl, hu1⟩; have k_w1 := hu1.cells.1; have f_w1 := hu1.cells.2; have z_w1 := hu1.size; (try simp at z_w1); have l0_w1 : w.heap.size < w1.heap.size := (by omega); have l1_w1 : w.heap.size + 1 < w1.heap.size := (by omega)))
        | (go_at_call 15; ((with_reducible refine (isNumber_calls k' x' a' n' s' _).mono ?_); rw [HN2.out]; rintro E w2 ⟨rfl, hu2⟩; have k_w2 := hu2.cells.1; have f_w2 := hu2.cells.2; have z_w2 := hu2.size; (try simp at z_w2); have l0_w2 : w.heap.size < w2.heap.size := (by omega); have l1_w2 : w.heap.size + 1 < w2.heap.size := (by omega)))
        | (go_at_call 29; ((with_reducible refine (asReal_r k x a n s _ p q HP.out).mono ?_); rintro E w3 ⟨rfl, hu3⟩; have k_w3 := hu3.cells.1; have f_w3 := hu3.cells.2; have z_w3 := hu3.size; (try simp at z_w3); have l0_w3 : w.heap.size < w3.heap.size := (by omega); have l1_w3 : w.heap.size + 1 < w3.heap.size := (by omega))))
      go_ret2
      exact ⟨⟨_, rfl, Or.inr ⟨HQ.out, rfl⟩⟩, by (repeat' (first | (with_reducible exact Up.refl _) | (with_reducible assumption) | (with_reducible refine Up.alloc ?_ _) | (with_reducible refine Up.drew ?_) | (with_reducible refine Up.drewN ?_ _) | (with_reducible refine Up.setCell ?_ ?_ _) | (with_reducible refine Up.call ?_ (by with_reducible assumption)) | go_size))⟩

end Go.Proofs.YtakickodehebmaaDoor.Ar
end

section
namespace Go.Proofs.YtakickodehebmaaDoor.Ar
open Go.ChangeShapes Go.WideShapes Go.ChangeAt Go.RowKit
open Go.Proofs.YtakickodehebmaaDoor.FixM (fits within)
open Go.Proofs.YtakickodehebmaaDoor.ArM
set_option linter.unusedVariables false
set_option linter.unusedSimpArgs false

set_option maxRecDepth 100000 in
set_option maxHeartbeats 4000000 in
theorem arith_11 (k : Int) (x : Bool) (a n : Int) (s : ByteArray) (k' : Int) (x' : Bool) (a' n' : Int) (s' : ByteArray) (g cp : Nat) (w : World) (R : Cs w g #[.int .i64 k, .bool x, .int .i64 a, .int .i64 n, .string s, .pointer none, .pointer none, .pointer none, .int .i64 0, .int .i64 0, .int .i64 k', .bool x', .int .i64 a', .int .i64 n', .string s', .pointer none, .pointer none, .pointer none, .int .i64 0, .int .i64 0]) (hg : g < w.heap.size) (rk rn re : Int) (hR : bin 11 k n k' n' = (rk, rn, re)) :
    Calls Tryd.prog 12 #[.string ⟨#[115, 117, 98]⟩, .slice (some ⟨g, 0, none⟩) 2 cp] w fun E w' => GivesR w rk rn re E w' ∧ Up w w' := by
  have hg1 : g < w.heap.size + 1 := by omega
  have hg2 : g < w.heap.size + 1 + 1 := by omega
  have hgn : ¬ w.heap.size = g := by omega
  have hgn1 : ¬ w.heap.size + 1 = g := by omega
  have c0 := R 0 _ rfl
  have c1 := R 1 _ rfl
  have c2 := R 2 _ rfl
  have c3 := R 3 _ rfl
  have c4 := R 4 _ rfl
  have c5 := R 5 _ rfl
  have c6 := R 6 _ rfl
  have c7 := R 7 _ rfl
  have c8 := R 8 _ rfl
  have c9 := R 9 _ rfl
  have c10 := R 10 _ rfl
  have c11 := R 11 _ rfl
  have c12 := R 12 _ rfl
  have c13 := R 13 _ rfl
  have c14 := R 14 _ rfl
  have c15 := R 15 _ rfl
  have c16 := R 16 _ rfl
  have c17 := R 17 _ rfl
  have c18 := R 18 _ rfl
  have c19 := R 19 _ rfl
  clear R
  cases hN : numb k n
  · obtain ⟨rfl, rfl, rfl⟩ : 0 = rk ∧ 0 = rn ∧ 16 = re := by simpa [bin, hN, tcheck] using hR
    have HN := Lib.hid hN
    clear hN hR
    go_enter Tryd.func12, Tryd.ntmps12
    go_wp2_with (first
      | (go_at_call 15; ((with_reducible refine (isNumber_calls k x a n s _).mono ?_); rw [HN.out]; rintro E w1 ⟨rfl, hu1⟩; have k_w1 := hu1.cells.1; have f_w1 := hu1.cells.2; have z_w1 := hu1.size; (try simp at z_w1); have l0_w1 : w.heap.size < w1.heap.size := (by omega); have l1_w1 : w.heap.size + 1 < w1.heap.size := (by omega))))
    go_ret2
    exact ⟨⟨_, rfl, Or.inr ⟨by decide, rfl⟩⟩, by (repeat' (first | (with_reducible exact Up.refl _) | (with_reducible assumption) | (with_reducible refine Up.alloc ?_ _) | (with_reducible refine Up.drew ?_) | (with_reducible refine Up.drewN ?_ _) | (with_reducible refine Up.setCell ?_ ?_ _) | (with_reducible refine Up.call ?_ (by with_reducible assumption)) | go_size))⟩
  cases hN2 : numb k' n'
  · obtain ⟨rfl, rfl, rfl⟩ : 0 = rk ∧ 0 = rn ∧ 16 = re := by simpa [bin, hN, hN2, tcheck] using hR
    have HN := Lib.hid hN
    have HN2 := Lib.hid hN2
    clear hN hN2 hR
    go_enter Tryd.func12, Tryd.ntmps12
    go_wp2_with (first
      | (go_at_call 15; ((with_reducible refine (isNumber_calls k x a n s _).mono ?_); rw [HN.out]; rintro E w1 ⟨rfl, hu1⟩; have k_w1 := hu1.cells.1; have f_w1 := hu1.cells.2; have z_w1 := hu1.size; (try simp at z_w1); have l0_w1 : w.heap.size < w1.heap.size := (by omega); have l1_w1 : w.heap.size + 1 < w1.heap.size := (by omega)))
      | (go_at_call 15; ((with_reducible refine (isNumber_calls k' x' a' n' s' _).mono ?_); rw [HN2.out]; rintro E w2 ⟨rfl, hu2⟩; have k_w2 := hu2.cells.1; have f_w2 := hu2.cells.2; have z_w2 := hu2.size; (try simp at z_w2); have l0_w2 : w.heap.size < w2.heap.size := (by omega); have l1_w2 : w.heap.size + 1 < w2.heap.size := (by omega))))
    go_ret2
    exact ⟨⟨_, rfl, Or.inr ⟨by decide, rfl⟩⟩, by (repeat' (first | (with_reducible exact Up.refl _) | (with_reducible assumption) | (with_reducible refine Up.alloc ?_ _) | (with_reducible refine Up.drew ?_) | (with_reducible refine Up.drewN ?_ _) | (with_reducible refine Up.setCell ?_ ?_ _) | (with_reducible refine Up.call ?_ (by with_reducible assumption)) | go_size))⟩
  obtain ⟨hk, b1, b2⟩ := numb_fits hN
  obtain ⟨hk', b1', b2'⟩ := numb_fits hN2
  have hS : sums 11 k n k' n' = (rk, rn, re) := by simpa [bin, hN, hN2] using hR
  have HN := Lib.hid hN
  have HN2 := Lib.hid hN2
  clear hR
  by_cases h1 : k = 1
  · subst h1
    by_cases h1' : k' = 1
    · subst h1'
      have i1 : isI 1 n = true := by simpa [isI, numb] using hN
      have i2 : isI 1 n' = true := by simpa [isI, numb] using hN2
      clear hN hN2 hk hk'
      obtain ⟨m, hm, m1, m2⟩ : ∃ m, n - n' = m ∧ -4611686018427387904 ≤ m ∧ m ≤ 4611686018427387904 := ⟨_, rfl, by omega, by omega⟩
      cases hf : fits m
      · have HF := Lib.hid hf
        have HM := Lib.hid hm
        have hx : exactI 11 n n' = m := by rw [← hm]; rfl
        obtain ⟨p, q, hp⟩ : ∃ p q, asReal 1 n = (p, q) := ⟨_, _, rfl⟩
        obtain ⟨p', q', hp'⟩ : ∃ p q, asReal 1 n' = (p, q) := ⟨_, _, rfl⟩
        by_cases hq : q = 0
        · subst hq
          by_cases hq' : q' = 0
          · subst hq'
            have hG : real ((FixM.sub p p').1, (FixM.sub p p').2) = (rk, rn, re) := by rw [← hS]; simp [sums, hx, hf, hp, hp', inexactI]
            have HG := Lib.hid hG
            have HP := Lib.hid hp
            have HP2 := Lib.hid hp'
            clear hS hG hp hp'
            go_enter Tryd.func12, Tryd.ntmps12
            go_wp2_with (first
              | (go_at_call 15; ((with_reducible refine (isNumber_calls 1 x a n s _).mono ?_); rw [HN.out]; rintro E w1 ⟨rfl, hu1⟩; have k_w1 := hu1.cells.1; have f_w1 := hu1.cells.2; have z_w1 := hu1.size; (try simp at z_w1); have l0_w1 : w.heap.size < w1.heap.size := (by omega); have l1_w1 : w.heap.size + 1 < w1.heap.size := (by omega)))
              | (go_at_call 15; ((with_reducible refine (isNumber_calls 1 x' a' n' s' _).mono ?_); rw [HN2.out]; rintro E w2 ⟨rfl, hu2⟩; have k_w2 := hu2.cells.1; have f_w2 := hu2.cells.2; have z_w2 := hu2.size; (try simp at z_w2); have l0_w2 : w.heap.size < w2.heap.size := (by omega); have l1_w2 : w.heap.size + 1 < w2.heap.size := (by omega)))
              | (go_at_call 28; ((with_reducible refine (small_r _ _).mono ?_); rw [HF.out]; rintro E w5 ⟨rfl, rfl⟩))
              | (go_at_call 29; ((with_reducible refine (asReal_r 1 x a n s _ p 0 HP.out).mono ?_); rintro E w3 ⟨rfl, hu3⟩; have k_w3 := hu3.cells.1; have f_w3 := hu3.cells.2; have z_w3 := hu3.size; (try simp at z_w3); have l0_w3 : w.heap.size < w3.heap.size := (by omega); have l1_w3 : w.heap.size + 1 < w3.heap.size := (by omega)))
              | (go_at_call 29; ((with_reducible refine (asReal_r 1 x' a' n' s' _ p' 0 HP2.out).mono ?_); rintro E w4 ⟨rfl, hu4⟩; have k_w4 := hu4.cells.1; have f_w4 := hu4.cells.2; have z_w4 := hu4.size; (try simp at z_w4); have l0_w4 : w.heap.size < w4.heap.size := (by omega); have l1_w4 : w.heap.size + 1 < w4.heap.size := (by omega)))
              | (go_at_call 32; ((with_reducible refine (Rfix.sub_calls _ _ _).mono ?_); rintro E w6 ⟨rfl, hu6⟩))
              | (go_at_call 30; ((with_reducible refine (gives_r _ _ rk rn re HG.out _).mono ?_); rintro E w7 ⟨⟨v, rfl, hv⟩, hu7⟩; have HV := Lib.hid hv; clear hv)))
            go_ret2
            exact ⟨⟨v, rfl, HV.out.of_up (by (repeat' (first | (with_reducible exact Up.refl _) | (with_reducible assumption) | (with_reducible refine Up.alloc ?_ _) | (with_reducible refine Up.drew ?_) | (with_reducible refine Up.drewN ?_ _) | (with_reducible refine Up.setCell ?_ ?_ _) | (with_reducible refine Up.call ?_ (by with_reducible assumption)) | go_size)))⟩, by (repeat' (first | (with_reducible exact Up.refl _) | (with_reducible assumption) | (with_reducible refine Up.alloc ?_ _) | (with_reducible refine Up.drew ?_) | (with_reducible refine Up.drewN ?_ _) | (with_reducible refine Up.setCell ?_ ?_ _) | (with_reducible refine Up.call ?_ (by with_reducible assumption)) | go_size))⟩
          · obtain ⟨rfl, rfl, rfl⟩ : 0 = rk ∧ 0 = rn ∧ q' = re := by simpa [sums, hx, hf, hp, hp', hq'] using hS
            have dq : (q' == 0) = false := by simpa using hq'
            have HQ := Lib.hid hq'
            have HP := Lib.hid hp
            have HP2 := Lib.hid hp'
            clear hS hp hp' hq'
            go_enter Tryd.func12, Tryd.ntmps12
            go_wp2_with (first
              | (go_at_call 15; ((with_reducible refine (isNumber_calls 1 x a n s _).mono ?_); rw [HN.out]; rintro E w1 ⟨rfl, hu1⟩; have k_w1 := hu1.cells.1; have f_w1 := hu1.cells.2; have z_w1 := hu1.size; (try simp at z_w1); have l0_w1 : w.heap.size < w1.heap.size := (by omega); have l1_w1 : w.heap.size + 1 < w1.heap.size := (by omega)))
              | (go_at_call 15; ((with_reducible refine (isNumber_calls 1 x' a' n' s' _).mono ?_); rw [HN2.out]; rintro E w2 ⟨rfl, hu2⟩; have k_w2 := hu2.cells.1; have f_w2 := hu2.cells.2; have z_w2 := hu2.size; (try simp at z_w2); have l0_w2 : w.heap.size < w2.heap.size := (by omega); have l1_w2 : w.heap.size + 1 < w2.heap.size := (by omega)))
              | (go_at_call 28; ((with_reducible refine (small_r _ _).mono ?_); rw [HF.out]; rintro E w5 ⟨rfl, rfl⟩))
              | (go_at_call 29; ((with_reducible refine (asReal_r 1 x a n s _ p 0 HP.out).mono ?_); rintro E w3 ⟨rfl, hu3⟩; have k_w3 := hu3.cells.1; have f_w3 := hu3.cells.2; have z_w3 := hu3.size; (try simp at z_w3); have l0_w3 : w.heap.size < w3.heap.size := (by omega); have l1_w3 : w.heap.size + 1 < w3.heap.size := (by omega)))
              | (go_at_call 29; ((with_reducible refine (asReal_r 1 x' a' n' s' _ p' q' HP2.out).mono ?_); rintro E w4 ⟨rfl, hu4⟩; have k_w4 := hu4.cells.1; have f_w4 := hu4.cells.2; have z_w4 := hu4.size; (try simp at z_w4); have l0_w4 : w.heap.size < w4.heap.size := (by omega); have l1_w4 : w.heap.size + 1 < w4.heap.size := (by omega))))
            go_ret2
            exact ⟨⟨_, rfl, Or.inr ⟨HQ.out, rfl⟩⟩, by (repeat' (first | (with_reducible exact Up.refl _) | (with_reducible assumption) | (with_reducible refine Up.alloc ?_ _) | (with_reducible refine Up.drew ?_) | (with_reducible refine Up.drewN ?_ _) | (with_reducible refine Up.setCell ?_ ?_ _) | (with_reducible refine Up.call ?_ (by with_reducible assumption)) | go_size))⟩
        · obtain ⟨rfl, rfl, rfl⟩ : 0 = rk ∧ 0 = rn ∧ q = re := by simpa [sums, hx, hf, hp, hp', hq] using hS
          have dq : (q == 0) = false := by simpa using hq
          have HQ := Lib.hid hq
          have HP := Lib.hid hp
          clear hS hp hp' hq
          go_enter Tryd.func12, Tryd.ntmps12
          go_wp2_with (first
            | (go_at_call 15; ((with_reducible refine (isNumber_calls 1 x a n s _).mono ?_); rw [HN.out]; rintro E w1 ⟨rfl, hu1⟩; have k_w1 := hu1.cells.1; have f_w1 := hu1.cells.2; have z_w1 := hu1.size; (try simp at z_w1); have l0_w1 : w.heap.size < w1.heap.size := (by omega); have l1_w1 : w.heap.size + 1 < w1.heap.size := (by omega)))
            | (go_at_call 15; ((with_reducible refine (isNumber_calls 1 x' a' n' s' _).mono ?_); rw [HN2.out]; rintro E w2 ⟨rfl, hu2⟩; have k_w2 := hu2.cells.1; have f_w2 := hu2.cells.2; have z_w2 := hu2.size; (try simp at z_w2); have l0_w2 : w.heap.size < w2.heap.size := (by omega); have l1_w2 : w.heap.size + 1 < w2.heap.size := (by omega)))
            | (go_at_call 28; ((with_reducible refine (small_r _ _).mono ?_); rw [HF.out]; rintro E w5 ⟨rfl, rfl⟩))
            | (go_at_call 29; ((with_reducible refine (asReal_r 1 x a n s _ p q HP.out).mono ?_); rintro E w3 ⟨rfl, hu3⟩; have k_w3 := hu3.cells.1; have f_w3 := hu3.cells.2; have z_w3 := hu3.size; (try simp at z_w3); have l0_w3 : w.heap.size < w3.heap.size := (by omega); have l1_w3 : w.heap.size + 1 < w3.heap.size := (by omega))))
          go_ret2
          exact ⟨⟨_, rfl, Or.inr ⟨HQ.out, rfl⟩⟩, by (repeat' (first | (with_reducible exact Up.refl _) | (with_reducible assumption) | (with_reducible refine Up.alloc ?_ _) | (with_reducible refine Up.drew ?_) | (with_reducible refine Up.drewN ?_ _) | (with_reducible refine Up.setCell ?_ ?_ _) | (with_reducible refine Up.call ?_ (by with_reducible assumption)) | go_size))⟩
      · obtain ⟨rfl, rfl, rfl⟩ : 1 = rk ∧ m = rn ∧ 0 = re := by simpa [sums, i1, i2, exactI, hm, hf] using hS
        have HF := Lib.hid hf
        clear hS i1 i2 hf
        go_enter Tryd.func12, Tryd.ntmps12
        go_wp2_with (first
          | (go_at_call 15; ((with_reducible refine (isNumber_calls 1 x a n s _).mono ?_); rw [HN.out]; rintro E w1 ⟨rfl, hu1⟩; have k_w1 := hu1.cells.1; have f_w1 := hu1.cells.2; have z_w1 := hu1.size; (try simp at z_w1); have l0_w1 : w.heap.size < w1.heap.size := (by omega); have l1_w1 : w.heap.size + 1 < w1.heap.size := (by omega)))
          | (go_at_call 15; ((with_reducible refine (isNumber_calls 1 x' a' n' s' _).mono ?_); rw [HN2.out]; rintro E w2 ⟨rfl, hu2⟩; have k_w2 := hu2.cells.1; have f_w2 := hu2.cells.2; have z_w2 := hu2.size; (try simp at z_w2); have l0_w2 : w.heap.size < w2.heap.size := (by omega); have l1_w2 : w.heap.size + 1 < w2.heap.size := (by omega)))
          | (go_at_call 28; ((with_reducible refine (small_r _ _).mono ?_); rw [HF.out]; rintro E w5 ⟨rfl, rfl⟩))
          | (go_at_call 22; ((with_reducible refine (whole_r _ _).mono ?_); rintro E w8 ⟨rfl, hu8⟩))
          | (go_at_call 19; ((with_reducible refine (one_r 1 m _).mono ?_); rintro E w9 ⟨⟨v, rfl, hv⟩, hu9⟩; have HV := Lib.hid hv; clear hv)))
        go_ret2
        exact ⟨⟨v, rfl, HV.out.of_up (by (repeat' (first | (with_reducible exact Up.refl _) | (with_reducible assumption) | (with_reducible refine Up.alloc ?_ _) | (with_reducible refine Up.drew ?_) | (with_reducible refine Up.drewN ?_ _) | (with_reducible refine Up.setCell ?_ ?_ _) | (with_reducible refine Up.call ?_ (by with_reducible assumption)) | go_size)))⟩, by (repeat' (first | (with_reducible exact Up.refl _) | (with_reducible assumption) | (with_reducible refine Up.alloc ?_ _) | (with_reducible refine Up.drew ?_) | (with_reducible refine Up.drewN ?_ _) | (with_reducible refine Up.setCell ?_ ?_ _) | (with_reducible refine Up.call ?_ (by with_reducible assumption)) | go_size))⟩
    · have d1' : (k' == 1) = false := by simpa using h1'
      have i2 : isI k' n' = false := by simp [isI, h1']
      clear hN hN2 hk hk' h1'
      obtain ⟨p, q, hp⟩ : ∃ p q, asReal 1 n = (p, q) := ⟨_, _, rfl⟩
      obtain ⟨p', q', hp'⟩ : ∃ p q, asReal k' n' = (p, q) := ⟨_, _, rfl⟩
      by_cases hq : q = 0
      · subst hq
        by_cases hq' : q' = 0
        · subst hq'
          have hG : real ((FixM.sub p p').1, (FixM.sub p p').2) = (rk, rn, re) := by rw [← hS]; simp [sums, i2, hp, hp', inexactI]
          have HG := Lib.hid hG
          have HP := Lib.hid hp
          have HP2 := Lib.hid hp'
          clear hS hG hp hp'
          go_enter Tryd.func12, Tryd.ntmps12
          go_wp2_with (first
            | (go_at_call 15; ((with_reducible refine (isNumber_calls 1 x a n s _).mono ?_); rw [HN.out]; rintro E w1 ⟨rfl, hu1⟩; have k_w1 := hu1.cells.1; have f_w1 := hu1.cells.2; have z_w1 := hu1.size; (try simp at z_w1); have l0_w1 : w.heap.size < w1.heap.size := (by omega); have l1_w1 : w.heap.size + 1 < w1.heap.size := (by omega)))
            | (go_at_call 15; ((with_reducible refine (isNumber_calls k' x' a' n' s' _).mono ?_); rw [HN2.out]; rintro E w2 ⟨rfl, hu2⟩; have k_w2 := hu2.cells.1; have f_w2 := hu2.cells.2; have z_w2 := hu2.size; (try simp at z_w2); have l0_w2 : w.heap.size < w2.heap.size := (by omega); have l1_w2 : w.heap.size + 1 < w2.heap.size := (by omega)))
            | (go_at_call 29; ((with_reducible refine (asReal_r 1 x a n s _ p 0 HP.out).mono ?_); rintro E w3 ⟨rfl, hu3⟩; have k_w3 := hu3.cells.1; have f_w3 := hu3.cells.2; have z_w3 := hu3.size; (try simp at z_w3); have l0_w3 : w.heap.size < w3.heap.size := (by omega); have l1_w3 : w.heap.size + 1 < w3.heap.size := (by omega)))
            | (go_at_call 29; ((with_reducible refine (asReal_r k' x' a' n' s' _ p' 0 HP2.out).mono ?_); rintro E w4 ⟨rfl, hu4⟩; have k_w4 := hu4.cells.1; have f_w4 := hu4.cells.2; have z_w4 := hu4.size; (try simp at z_w4); have l0_w4 : w.heap.size < w4.heap.size := (by omega); have l1_w4 : w.heap.size + 1 < w4.heap.size := (by omega)))
            | (go_at_call 32; ((with_reducible refine (Rfix.sub_calls _ _ _).mono ?_); rintro E w6 ⟨rfl, hu6⟩))
            | (go_at_call 30; ((with_reducible refine (gives_r _ _ rk rn re HG.out _).mono ?_); rintro E w7 ⟨⟨v, rfl, hv⟩, hu7⟩; have HV := Lib.hid hv; clear hv)))
          go_ret2
          exact ⟨⟨v, rfl, HV.out.of_up (by (repeat' (first | (with_reducible exact Up.refl _) | (with_reducible assumption) | (with_reducible refine Up.alloc ?_ _) | (with_reducible refine Up.drew ?_) | (with_reducible refine Up.drewN ?_ _) | (with_reducible refine Up.setCell ?_ ?_ _) | (with_reducible refine Up.call ?_ (by with_reducible assumption)) | go_size)))⟩, by (repeat' (first | (with_reducible exact Up.refl _) | (with_reducible assumption) | (with_reducible refine Up.alloc ?_ _) | (with_reducible refine Up.drew ?_) | (with_reducible refine Up.drewN ?_ _) | (with_reducible refine Up.setCell ?_ ?_ _) | (with_reducible refine Up.call ?_ (by with_reducible assumption)) | go_size))⟩
        · obtain ⟨rfl, rfl, rfl⟩ : 0 = rk ∧ 0 = rn ∧ q' = re := by simpa [sums, i2, hp, hp', hq'] using hS
          have dq : (q' == 0) = false := by simpa using hq'
          have HQ := Lib.hid hq'
          have HP := Lib.hid hp
          have HP2 := Lib.hid hp'
          clear hS hp hp' hq'
          go_enter Tryd.func12, Tryd.ntmps12
          go_wp2_with (first
            | (go_at_call 15; ((with_reducible refine (isNumber_calls 1 x a n s _).mono ?_); rw [HN.out]; rintro E w1 ⟨rfl, hu1⟩; have k_w1 := hu1.cells.1; have f_w1 := hu1.cells.2; have z_w1 := hu1.size; (try simp at z_w1); have l0_w1 : w.heap.size < w1.heap.size := (by omega); have l1_w1 : w.heap.size + 1 < w1.heap.size := (by omega)))
            | (go_at_call 15; ((with_reducible refine (isNumber_calls k' x' a' n' s' _).mono ?_); rw [HN2.out]; rintro E w2 ⟨rfl, hu2⟩; have k_w2 := hu2.cells.1; have f_w2 := hu2.cells.2; have z_w2 := hu2.size; (try simp at z_w2); have l0_w2 : w.heap.size < w2.heap.size := (by omega); have l1_w2 : w.heap.size + 1 < w2.heap.size := (by omega)))
            | (go_at_call 29; ((with_reducible refine (asReal_r 1 x a n s _ p 0 HP.out).mono ?_); rintro E w3 ⟨rfl, hu3⟩; have k_w3 := hu3.cells.1; have f_w3 := hu3.cells.2; have z_w3 := hu3.size; (try simp at z_w3); have l0_w3 : w.heap.size < w3.heap.size := (by omega); have l1_w3 : w.heap.size + 1 < w3.heap.size := (by omega)))
            | (go_at_call 29; ((with_reducible refine (asReal_r k' x' a' n' s' _ p' q' HP2.out).mono ?_); rintro E w4 ⟨rfl, hu4⟩; have k_w4 := hu4.cells.1; have f_w4 := hu4.cells.2; have z_w4 := hu4.size; (try simp at z_w4); have l0_w4 : w.heap.size < w4.heap.size := (by omega); have l1_w4 : w.heap.size + 1 < w4.heap.size := (by omega))))
          go_ret2
          exact ⟨⟨_, rfl, Or.inr ⟨HQ.out, rfl⟩⟩, by (repeat' (first | (with_reducible exact Up.refl _) | (with_reducible assumption) | (with_reducible refine Up.alloc ?_ _) | (with_reducible refine Up.drew ?_) | (with_reducible refine Up.drewN ?_ _) | (with_reducible refine Up.setCell ?_ ?_ _) | (with_reducible refine Up.call ?_ (by with_reducible assumption)) | go_size))⟩
      · obtain ⟨rfl, rfl, rfl⟩ : 0 = rk ∧ 0 = rn ∧ q = re := by simpa [sums, i2, hp, hp', hq] using hS
        have dq : (q == 0) = false := by simpa using hq
        have HQ := Lib.hid hq
        have HP := Lib.hid hp
        clear hS hp hp' hq
        go_enter Tryd.func12, Tryd.ntmps12
        go_wp2_with (first
          | (go_at_call 15; ((with_reducible refine (isNumber_calls 1 x a n s _).mono ?_); rw [HN.out]; rintro E w1 ⟨rfl, hu1⟩; have k_w1 := hu1.cells.1; have f_w1 := hu1.cells.2; have z_w1 := hu1.size; (try simp at z_w1); have l0_w1 : w.heap.size < w1.heap.size := (by omega); have l1_w1 : w.heap.size + 1 < w1.heap.size := (by omega)))
          | (go_at_call 15; ((with_reducible refine (isNumber_calls k' x' a' n' s' _).mono ?_); rw [HN2.out]; rintro E w2 ⟨rfl, hu2⟩; have k_w2 := hu2.cells.1; have f_w2 := hu2.cells.2; have z_w2 := hu2.size; (try simp at z_w2); have l0_w2 : w.heap.size < w2.heap.size := (by omega); have l1_w2 : w.heap.size + 1 < w2.heap.size := (by omega)))
          | (go_at_call 29; ((with_reducible refine (asReal_r 1 x a n s _ p q HP.out).mono ?_); rintro E w3 ⟨rfl, hu3⟩; have k_w3 := hu3.cells.1; have f_w3 := hu3.cells.2; have z_w3 := hu3.size; (try simp at z_w3); have l0_w3 : w.heap.size < w3.heap.size := (by omega); have l1_w3 : w.heap.size + 1 < w3.heap.size := (by omega))))
        go_ret2
        exact ⟨⟨_, rfl, Or.inr ⟨HQ.out, rfl⟩⟩, by (repeat' (first | (with_reducible exact Up.refl _) | (with_reducible assumption) | (with_reducible refine Up.alloc ?_ _) | (with_reducible refine Up.drew ?_) | (with_reducible refine Up.drewN ?_ _) | (with_reducible refine Up.setCell ?_ ?_ _) | (with_reducible refine Up.call ?_ (by with_reducible assumption)) | go_size))⟩
  · have d1 : (k == 1) = false := by simpa using h1
    have i1 : isI k n = false := by simp [isI, h1]
    clear hN hN2 hk hk' h1
    obtain ⟨p, q, hp⟩ : ∃ p q, asReal k n = (p, q) := ⟨_, _, rfl⟩
    obtain ⟨p', q', hp'⟩ : ∃ p q, asReal k' n' = (p, q) := ⟨_, _, rfl⟩
    by_cases hq : q = 0
    · subst hq
      by_cases hq' : q' = 0
      · subst hq'
        have hG : real ((FixM.sub p p').1, (FixM.sub p p').2) = (rk, rn, re) := by rw [← hS]; simp [sums, i1, hp, hp', inexactI]
        have HG := Lib.hid hG
        have HP := Lib.hid hp
        have HP2 := Lib.hid hp'
        clear hS hG hp hp'
        go_enter Tryd.func12, Tryd.ntmps12
        go_wp2_with (first
          | (go_at_call 15; ((with_reducible refine (isNumber_calls k x a n s _).mono ?_); rw [HN.out]; rintro E w1 ⟨rfl, hu1⟩; have k_w1 := hu1.cells.1; have f_w1 := hu1.cells.2; have z_w1 := hu1.size; (try simp at z_w1); have l0_w1 : w.heap.size < w1.heap.size := (by omega); have l1_w1 : w.heap.size + 1 < w1.heap.size := (by omega)))
          | (go_at_call 15; ((with_reducible refine (isNumber_calls k' x' a' n' s' _).mono ?_); rw [HN2.out]; rintro E w2 ⟨rfl, hu2⟩; have k_w2 := hu2.cells.1; have f_w2 := hu2.cells.2; have z_w2 := hu2.size; (try simp at z_w2); have l0_w2 : w.heap.size < w2.heap.size := (by omega); have l1_w2 : w.heap.size + 1 < w2.heap.size := (by omega)))
          | (go_at_call 29; ((with_reducible refine (asReal_r k x a n s _ p 0 HP.out).mono ?_); rintro E w3 ⟨rfl, hu3⟩; have k_w3 := hu3.cells.1; have f_w3 := hu3.cells.2; have z_w3 := hu3.size; (try simp at z_w3); have l0_w3 : w.heap.size < w3.heap.size := (by omega); have l1_w3 : w.heap.size + 1 < w3.heap.size := (by omega)))
          | (go_at_call 29; ((with_reducible refine (asReal_r k' x' a' n' s' _ p' 0 HP2.out).mono ?_); rintro E w4 ⟨rfl, hu4⟩; have k_w4 := hu4.cells.1; have f_w4 := hu4.cells.2; have z_w4 := hu4.size; (try simp at z_w4); have l0_w4 : w.heap.size < w4.heap.size := (by omega); have l1_w4 : w.heap.size + 1 < w4.heap.size := (by omega)))
          | (go_at_call 32; ((with_reducible refine (Rfix.sub_calls _ _ _).mono ?_); rintro E w6 ⟨rfl, hu6⟩))
          | (go_at_call 30; ((with_reducible refine (gives_r _ _ rk rn re HG.out _).mono ?_); rintro E w7 ⟨⟨v, rfl, hv⟩, hu7⟩; have HV := Lib.hid hv; clear hv)))
        go_ret2
        exact ⟨⟨v, rfl, HV.out.of_up (by (repeat' (first | (with_reducible exact Up.refl _) | (with_reducible assumption) | (with_reducible refine Up.alloc ?_ _) | (with_reducible refine Up.drew ?_) | (with_reducible refine Up.drewN ?_ _) | (with_reducible refine Up.setCell ?_ ?_ _) | (with_reducible refine Up.call ?_ (by with_reducible assumption)) | go_size)))⟩, by (repeat' (first | (with_reducible exact Up.refl _) | (with_reducible assumption) | (with_reducible refine Up.alloc ?_ _) | (with_reducible refine Up.drew ?_) | (with_reducible refine Up.drewN ?_ _) | (with_reducible refine Up.setCell ?_ ?_ _) | (with_reducible refine Up.call ?_ (by with_reducible assumption)) | go_size))⟩
      · obtain ⟨rfl, rfl, rfl⟩ : 0 = rk ∧ 0 = rn ∧ q' = re := by simpa [sums, i1, hp, hp', hq'] using hS
        have dq : (q' == 0) = false := by simpa using hq'
        have HQ := Lib.hid hq'
        have HP := Lib.hid hp
        have HP2 := Lib.hid hp'
        clear hS hp hp' hq'
        go_enter Tryd.func12, Tryd.ntmps12
        go_wp2_with (first
          | (go_at_call 15; ((with_reducible refine (isNumber_calls k x a n s _).mono ?_); rw [HN.out]; rintro E w1 ⟨rfl, hu1⟩; have k_w1 := hu1.cells.1; have f_w1 := hu1.cells.2; have z_w1 := hu1.size; (try simp at z_w1); have l0_w1 : w.heap.size < w1.heap.size := (by omega); have l1_w1 : w.heap.size + 1 < w1.heap.size := (by omega)))
          | (go_at_call 15; ((with_reducible refine (isNumber_calls k' x' a' n' s' _).mono ?_); rw [HN2.out]; rintro E w2 ⟨rfl, hu2⟩; have k_w2 := hu2.cells.1; have f_w2 := hu2.cells.2; have z_w2 := hu2.size; (try simp at z_w2); have l0_w2 : w.heap.size < w2.heap.size := (by omega); have l1_w2 : w.heap.size + 1 < w2.heap.size := (by omega)))
          | (go_at_call 29; ((with_reducible refine (asReal_r k x a n s _ p 0 HP.out).mono ?_); rintro E w3 ⟨rfl, hu3⟩; have k_w3 := hu3.cells.1; have f_w3 := hu3.cells.2; have z_w3 := hu3.size; (try simp at z_w3); have l0_w3 : w.heap.size < w3.heap.size := (by omega); have l1_w3 : w.heap.size + 1 < w3.heap.size := (by omega)))
          | (go_at_call 29; ((with_reducible refine (asReal_r k' x' a' n' s' _ p' q' HP2.out).mono ?_); rintro E w4 ⟨rfl, hu4⟩; have k_w4 := hu4.cells.1; have f_w4 := hu4.cells.2; have z_w4 := hu4.size; (try simp at z_w4); have l0_w4 : w.heap.size < w4.heap.size := (by omega); have l1_w4 : w.heap.size + 1 < w4.heap.size := (by omega))))
        go_ret2
        exact ⟨⟨_, rfl, Or.inr ⟨HQ.out, rfl⟩⟩, by (repeat' (first | (with_reducible exact Up.refl _) | (with_reducible assumption) | (with_reducible refine Up.alloc ?_ _) | (with_reducible refine Up.drew ?_) | (with_reducible refine Up.drewN ?_ _) | (with_reducible refine Up.setCell ?_ ?_ _) | (with_reducible refine Up.call ?_ (by with_reducible assumption)) | go_size))⟩
    · obtain ⟨rfl, rfl, rfl⟩ : 0 = rk ∧ 0 = rn ∧ q = re := by simpa [sums, i1, hp, hp', hq] using hS
      have dq : (q == 0) = false := by simpa using hq
      have HQ := Lib.hid hq
      have HP := Lib.hid hp
      clear hS hp hp' hq
      go_enter Tryd.func12, Tryd.ntmps12
      go_wp2_with (first
        | (go_at_call 15; ((with_reducible refine (isNumber_calls k x a n s _).mono ?_); rw [HN.out]; rintro E w1 ⟨rfl, hu1⟩; have k_w1 := hu1.cells.1; have f_w1 := hu1.cells.2; have z_w1 := hu1.size; (try simp at z_w1); have l0_w1 : w.heap.size < w1.heap.size := (by omega); have l1_w1 : w.heap.size + 1 < w1.heap.size := (by omega)))
        | (go_at_call 15; ((with_reducible refine (isNumber_calls k' x' a' n' s' _).mono ?_); rw [HN2.out]; rintro E w2 ⟨rfl, hu2⟩; have k_w2 := hu2.cells.1; have f_w2 := hu2.cells.2; have z_w2 := hu2.size; (try simp at z_w2); have l0_w2 : w.heap.size < w2.heap.size := (by omega); have l1_w2 : w.heap.size + 1 < w2.heap.size := (by omega)))
        | (go_at_call 29; ((with_reducible refine (asReal_r k x a n s _ p q HP.out).mono ?_); rintro E w3 ⟨rfl, hu3⟩; have k_w3 := hu3.cells.1; have f_w3 := hu3.cells.2; have z_w3 := hu3.size; (try simp at z_w3); have l0_w3 : w.heap.size < w3.heap.size := (by omega); have l1_w3 : w.heap.size + 1 < w3.heap.size := (by omega))))
      go_ret2
      exact ⟨⟨_, rfl, Or.inr ⟨HQ.out, rfl⟩⟩, by (repeat' (first | (with_reducible exact Up.refl _) | (with_reducible assumption) | (with_reducible refine Up.alloc ?_ _) | (with_reducible refine Up.drew ?_) | (with_reducible refine Up.drewN ?_ _) | (with_reducible refine Up.setCell ?_ ?_ _) | (with_reducible refine Up.call ?_ (by with_reducible assumption)) | go_size))⟩

end Go.Proofs.YtakickodehebmaaDoor.Ar
end

section
namespace Go.Proofs.YtakickodehebmaaDoor.Ar
open Go.ChangeShapes Go.WideShapes Go.ChangeAt Go.RowKit
open Go.Proofs.YtakickodehebmaaDoor.FixM (fits within)
open Go.Proofs.YtakickodehebmaaDoor.ArM
set_option linter.unusedVariables false
set_option linter.unusedSimpArgs false

set_option maxRecDepth 100000 in
set_option maxHeartbeats 4000000 in
theorem arith_12 (k : Int) (x : Bool) (a n : Int) (s : ByteArray) (k' : Int) (x' : Bool) (a' n' : Int) (s' : ByteArray) (g cp : Nat) (w : World) (R : Cs w g #[.int .i64 k, .bool x, .int .i64 a, .int .i64 n, .string s, .pointer none, .pointer none, .pointer none, .int .i64 0, .int .i64 0, .int .i64 k', .bool x', .int .i64 a', .int .i64 n', .string s', .pointer none, .pointer none, .pointer none, .int .i64 0, .int .i64 0]) (hg : g < w.heap.size) (rk rn re : Int) (hR : bin 12 k n k' n' = (rk, rn, re)) :
    Calls Tryd.prog 12 #[.string ⟨#[109, 117, 108]⟩, .slice (some ⟨g, 0, none⟩) 2 cp] w fun E w' => GivesR w rk rn re E w' ∧ Up w w' := by
  have hg1 : g < w.heap.size + 1 := by omega
  have hg2 : g < w.heap.size + 1 + 1 := by omega
  have hgn : ¬ w.heap.size = g := by omega
  have hgn1 : ¬ w.heap.size + 1 = g := by omega
  have c0 := R 0 _ rfl
  have c1 := R 1 _ rfl
  have c2 := R 2 _ rfl
  have c3 := R 3 _ rfl
  have c4 := R 4 _ rfl
  have c5 := R 5 _ rfl
  have c6 := R 6 _ rfl
  have c7 := R 7 _ rfl
  have c8 := R 8 _ rfl
  have c9 := R 9 _ rfl
  have c10 := R 10 _ rfl
  have c11 := R 11 _ rfl
  have c12 := R 12 _ rfl
  have c13 := R 13 _ rfl
  have c14 := R 14 _ rfl
  have c15 := R 15 _ rfl
  have c16 := R 16 _ rfl
  have c17 := R 17 _ rfl
  have c18 := R 18 _ rfl
  have c19 := R 19 _ rfl
  clear R
  cases hN : numb k n
  · obtain ⟨rfl, rfl, rfl⟩ : 0 = rk ∧ 0 = rn ∧ 16 = re := by simpa [bin, hN, tcheck] using hR
    have HN := Lib.hid hN
    clear hN hR
    go_enter Tryd.func12, Tryd.ntmps12
    go_wp2_with (first
      | (go_at_call 15; ((with_reducible refine (isNumber_calls k x a n s _).mono ?_); rw [HN.out]; rintro E w1 ⟨rfl, hu1⟩; have k_w1 := hu1.cells.1; have f_w1 := hu1.cells.2; have z_w1 := hu1.size; (try simp at z_w1); have l0_w1 : w.heap.size < w1.heap.size := (by omega); have l1_w1 : w.heap.size + 1 < w1.heap.size := (by omega))))
    go_ret2
    exact ⟨⟨_, rfl, Or.inr ⟨by decide, rfl⟩⟩, by (repeat' (first | (with_reducible exact Up.refl _) | (with_reducible assumption) | (with_reducible refine Up.alloc ?_ _) | (with_reducible refine Up.drew ?_) | (with_reducible refine Up.drewN ?_ _) | (with_reducible refine Up.setCell ?_ ?_ _) | (with_reducible refine Up.call ?_ (by with_reducible assumption)) | go_size))⟩
  cases hN2 : numb k' n'
  · obtain ⟨rfl, rfl, rfl⟩ : 0 = rk ∧ 0 = rn ∧ 16 = re := by simpa [bin, hN, hN2, tcheck] using hR
    have HN := Lib.hid hN
    have HN2 := Lib.hid hN2
    clear hN hN2 hR
    go_enter Tryd.func12, Tryd.ntmps12
    go_wp2_with (first
      | (go_at_call 15; ((with_reducible refine (isNumber_calls k x a n s _).mono ?_); rw [HN.out]; rintro E w1 ⟨rfl, hu1⟩; have k_w1 := hu1.cells.1; have f_w1 := hu1.cells.2; have z_w1 := hu1.size; (try simp at z_w1); have l0_w1 : w.heap.size < w1.heap.size := (by omega); have l1_w1 : w.heap.size + 1 < w1.heap.size := (by omega)))
      | (go_at_call 15; ((with_reducible refine (isNumber_calls k' x' a' n' s' _).mono ?_); rw [HN2.out]; rintro E w2 ⟨rfl, hu2⟩; have k_w2 := hu2.cells.1; have f_w2 := hu2.cells.2; have z_w2 := hu2.size; (try simp at z_w2); have l0_w2 : w.heap.size < w2.heap.size := (by omega); have l1_w2 : w.heap.size + 1 < w2.heap.size := (by omega))))
    go_ret2
    exact ⟨⟨_, rfl, Or.inr ⟨by decide, rfl⟩⟩, by (repeat' (first | (with_reducible exact Up.refl _) | (with_reducible assumption) | (with_reducible refine Up.alloc ?_ _) | (with_reducible refine Up.drew ?_) | (with_reducible refine Up.drewN ?_ _) | (with_reducible refine Up.setCell ?_ ?_ _) | (with_reducible refine Up.call ?_ (by with_reducible assumption)) | go_size))⟩
  obtain ⟨hk, b1, b2⟩ := numb_fits hN
  obtain ⟨hk', b1', b2'⟩ := numb_fits hN2
  have hS : sums 12 k n k' n' = (rk, rn, re) := by simpa [bin, hN, hN2] using hR
  have HN := Lib.hid hN
  have HN2 := Lib.hid hN2
  clear hR
  by_cases h1 : k = 1
  · subst h1
    by_cases h1' : k' = 1
    · subst h1'
      have i1 : isI 1 n = true := by simpa [isI, numb] using hN
      have i2 : isI 1 n' = true := by simpa [isI, numb] using hN2
      clear hN hN2 hk hk'
      obtain ⟨m, hm, m1, m2⟩ : ∃ m, n * n' = m ∧ -4611686018427387904 ≤ m ∧ m ≤ 4611686018427387904 := ⟨_, rfl, (mul_bound b1 b2 b1' b2').1, (mul_bound b1 b2 b1' b2').2⟩
      cases hf : fits m
      · have HF := Lib.hid hf
        have HM := Lib.hid hm
        have hx : exactI 12 n n' = m := by rw [← hm]; rfl
        obtain ⟨p, q, hp⟩ : ∃ p q, asReal 1 n = (p, q) := ⟨_, _, rfl⟩
        obtain ⟨p', q', hp'⟩ : ∃ p q, asReal 1 n' = (p, q) := ⟨_, _, rfl⟩
        by_cases hq : q = 0
        · subst hq
          by_cases hq' : q' = 0
          · subst hq'
            have hG : real ((FixM.mul p p').1, (FixM.mul p p').2) = (rk, rn, re) := by rw [← hS]; simp [sums, hx, hf, hp, hp', inexactI]
            have HG := Lib.hid hG
            have HP := Lib.hid hp
            have HP2 := Lib.hid hp'
            clear hS hG hp hp'
            go_enter Tryd.func12, Tryd.ntmps12
            go_wp2_with (first
              | (go_at_call 15; ((with_reducible refine (isNumber_calls 1 x a n s _).mono ?_); rw [HN.out]; rintro E w1 ⟨rfl, hu1⟩; have k_w1 := hu1.cells.1; have f_w1 := hu1.cells.2; have z_w1 := hu1.size; (try simp at z_w1); have l0_w1 : w.heap.size < w1.heap.size := (by omega); have l1_w1 : w.heap.size + 1 < w1.heap.size := (by omega)))
              | (go_at_call 15; ((with_reducible refine (isNumber_calls 1 x' a' n' s' _).mono ?_); rw [HN2.out]; rintro E w2 ⟨rfl, hu2⟩; have k_w2 := hu2.cells.1; have f_w2 := hu2.cells.2; have z_w2 := hu2.size; (try simp at z_w2); have l0_w2 : w.heap.size < w2.heap.size := (by omega); have l1_w2 : w.heap.size + 1 < w2.heap.size := (by omega)))
              | (go_at_call 28; ((with_reducible refine (small_r _ _).mono ?_); rw [HF.out]; rintro E w5 ⟨rfl, rfl⟩))
              | (go_at_call 29; ((with_reducible refine (asReal_r 1 x a n s _ p 0 HP.out).mono ?_); rintro E w3 ⟨rfl, hu3⟩; have k_w3 := hu3.cells.1; have f_w3 := hu3.cells.2; have z_w3 := hu3.size; (try simp at z_w3); have l0_w3 : w.heap.size < w3.heap.size := (by omega); have l1_w3 : w.heap.size + 1 < w3.heap.size := (by omega)))
              | (go_at_call 29; ((with_reducible refine (asReal_r 1 x' a' n' s' _ p' 0 HP2.out).mono ?_); rintro E w4 ⟨rfl, hu4⟩; have k_w4 := hu4.cells.1; have f_w4 := hu4.cells.2; have z_w4 := hu4.size; (try simp at z_w4); have l0_w4 : w.heap.size < w4.heap.size := (by omega); have l1_w4 : w.heap.size + 1 < w4.heap.size := (by omega)))
              | (go_at_call 33; ((with_reducible refine (Rfix.mul_calls _ _ _).mono ?_); rintro E w6 ⟨rfl, hu6⟩))
              | (go_at_call 30; ((with_reducible refine (gives_r _ _ rk rn re HG.out _).mono ?_); rintro E w7 ⟨⟨v, rfl, hv⟩, hu7⟩; have HV := Lib.hid hv; clear hv)))
            go_ret2
            exact ⟨⟨v, rfl, HV.out.of_up (by (repeat' (first | (with_reducible exact Up.refl _) | (with_reducible assumption) | (with_reducible refine Up.alloc ?_ _) | (with_reducible refine Up.drew ?_) | (with_reducible refine Up.drewN ?_ _) | (with_reducible refine Up.setCell ?_ ?_ _) | (with_reducible refine Up.call ?_ (by with_reducible assumption)) | go_size)))⟩, by (repeat' (first | (with_reducible exact Up.refl _) | (with_reducible assumption) | (with_reducible refine Up.alloc ?_ _) | (with_reducible refine Up.drew ?_) | (with_reducible refine Up.drewN ?_ _) | (with_reducible refine Up.setCell ?_ ?_ _) | (with_reducible refine Up.call ?_ (by with_reducible assumption)) | go_size))⟩
          · obtain ⟨rfl, rfl, rfl⟩ : 0 = rk ∧ 0 = rn ∧ q' = re := by simpa [sums, hx, hf, hp, hp', hq'] using hS
            have dq : (q' == 0) = false := by simpa using hq'
            have HQ := Lib.hid hq'
            have HP := Lib.hid hp
            have HP2 := Lib.hid hp'
            clear hS hp hp' hq'
            go_enter Tryd.func12, Tryd.ntmps12
            go_wp2_with (first
              | (go_at_call 15; ((with_reducible refine (isNumber_calls 1 x a n s _).mono ?_); rw [HN.out]; rintro E w1 ⟨rfl, hu1⟩; have k_w1 := hu1.cells.1; have f_w1 := hu1.cells.2; have z_w1 := hu1.size; (try simp at z_w1); have l0_w1 : w.heap.size < w1.heap.size := (by omega); have l1_w1 : w.heap.size + 1 < w1.heap.size := (by omega)))
              | (go_at_call 15; ((with_reducible refine (isNumber_calls 1 x' a' n' s' _).mono ?_); rw [HN2.out]; rintro E w2 ⟨rfl, hu2⟩; have k_w2 := hu2.cells.1; have f_w2 := hu2.cells.2; have z_w2 := hu2.size; (try simp at z_w2); have l0_w2 : w.heap.size < w2.heap.size := (by omega); have l1_w2 : w.heap.size + 1 < w2.heap.size := (by omega)))
              | (go_at_call 28; ((with_reducible refine (small_r _ _).mono ?_); rw [HF.out]; rintro E w5 ⟨rfl, rfl⟩))
              | (go_at_call 29; ((with_reducible refine (asReal_r 1 x a n s _ p 0 HP.out).mono ?_); rintro E w3 ⟨rfl, hu3⟩; have k_w3 := hu3.cells.1; have f_w3 := hu3.cells.2; have z_w3 := hu3.size; (try simp at z_w3); have l0_w3 : w.heap.size < w3.heap.size := (by omega); have l1_w3 : w.heap.size + 1 < w3.heap.size := (by omega)))
              | (go_at_call 29; ((with_reducible refine (asReal_r 1 x' a' n' s' _ p' q' HP2.out).mono ?_); rintro E w4 ⟨rfl, hu4⟩; have k_w4 := hu4.cells.1; have f_w4 := hu4.cells.2; have z_w4 := hu4.size; (try simp at z_w4); have l0_w4 : w.heap.size < w4.heap.size := (by omega); have l1_w4 : w.heap.size + 1 < w4.heap.size := (by omega))))
            go_ret2
            exact ⟨⟨_, rfl, Or.inr ⟨HQ.out, rfl⟩⟩, by (repeat' (first | (with_reducible exact Up.refl _) | (with_reducible assumption) | (with_reducible refine Up.alloc ?_ _) | (with_reducible refine Up.drew ?_) | (with_reducible refine Up.drewN ?_ _) | (with_reducible refine Up.setCell ?_ ?_ _) | (with_reducible refine Up.call ?_ (by with_reducible assumption)) | go_size))⟩
        · obtain ⟨rfl, rfl, rfl⟩ : 0 = rk ∧ 0 = rn ∧ q = re := by simpa [sums, hx, hf, hp, hp', hq] using hS
          have dq : (q == 0) = false := by simpa using hq
          have HQ := Lib.hid hq
          have HP := Lib.hid hp
          clear hS hp hp' hq
          go_enter Tryd.func12, Tryd.ntmps12
          go_wp2_with (first
            | (go_at_call 15; ((with_reducible refine (isNumber_calls 1 x a n s _).mono ?_); rw [HN.out]; rintro E w1 ⟨rfl, hu1⟩; have k_w1 := hu1.cells.1; have f_w1 := hu1.cells.2; have z_w1 := hu1.size; (try simp at z_w1); have l0_w1 : w.heap.size < w1.heap.size := (by omega); have l1_w1 : w.heap.size + 1 < w1.heap.size := (by omega)))
            | (go_at_call 15; ((with_reducible refine (isNumber_calls 1 x' a' n' s' _).mono ?_); rw [HN2.out]; rintro E w2 ⟨rfl, hu2⟩; have k_w2 := hu2.cells.1; have f_w2 := hu2.cells.2; have z_w2 := hu2.size; (try simp at z_w2); have l0_w2 : w.heap.size < w2.heap.size := (by omega); have l1_w2 : w.heap.size + 1 < w2.heap.size := (by omega)))
            | (go_at_call 28; ((with_reducible refine (small_r _ _).mono ?_); rw [HF.out]; rintro E w5 ⟨rfl, rfl⟩))
            | (go_at_call 29; ((with_reducible refine (asReal_r 1 x a n s _ p q HP.out).mono ?_); rintro E w3 ⟨rfl, hu3⟩; have k_w3 := hu3.cells.1; have f_w3 := hu3.cells.2; have z_w3 := hu3.size; (try simp at z_w3); have l0_w3 : w.heap.size < w3.heap.size := (by omega); have l1_w3 : w.heap.size + 1 < w3.heap.size := (by omega))))
          go_ret2
          exact ⟨⟨_, rfl, Or.inr ⟨HQ.out, rfl⟩⟩, by (repeat' (first | (with_reducible exact Up.refl _) | (with_reducible assumption) | (with_reducible refine Up.alloc ?_ _) | (with_reducible refine Up.drew ?_) | (with_reducible refine Up.drewN ?_ _) | (with_reducible refine Up.setCell ?_ ?_ _) | (with_reducible refine Up.call ?_ (by with_reducible assumption)) | go_size))⟩
      · obtain ⟨rfl, rfl, rfl⟩ : 1 = rk ∧ m = rn ∧ 0 = re := by simpa [sums, i1, i2, exactI, hm, hf] using hS
        have HF := Lib.hid hf
        clear hS i1 i2 hf
        go_enter Tryd.func12, Tryd.ntmps12
        go_wp2_with (first
          | (go_at_call 15; ((with_reducible refine (isNumber_calls 1 x a n s _).mono ?_); rw [HN.out]; rintro E w1 ⟨rfl, hu1⟩; have k_w1 := hu1.cells.1; have f_w1 := hu1.cells.2; have z_w1 := hu1.size; (try simp at z_w1); have l0_w1 : w.heap.size < w1.heap.size := (by omega); have l1_w1 : w.heap.size + 1 < w1.heap.size := (by omega)))
          | (go_at_call 15; ((with_reducible refine (isNumber_calls 1 x' a' n' s' _).mono ?_); rw [HN2.out]; rintro E w2 ⟨rfl, hu2⟩; have k_w2 := hu2.cells.1; have f_w2 := hu2.cells.2; have z_w2 := hu2.size; (try simp at z_w2); have l0_w2 : w.heap.size < w2.heap.size := (by omega); have l1_w2 : w.heap.size + 1 < w2.heap.size := (by omega)))
          | (go_at_call 28; ((with_reducible refine (small_r _ _).mono ?_); rw [HF.out]; rintro E w5 ⟨rfl, rfl⟩))
          | (go_at_call 22; ((with_reducible refine (whole_r _ _).mono ?_); rintro E w8 ⟨rfl, hu8⟩))
          | (go_at_call 19; ((with_reducible refine (one_r 1 m _).mono ?_); rintro E w9 ⟨⟨v, rfl, hv⟩, hu9⟩; have HV := Lib.hid hv; clear hv)))
        go_ret2
        exact ⟨⟨v, rfl, HV.out.of_up (by (repeat' (first | (with_reducible exact Up.refl _) | (with_reducible assumption) | (with_reducible refine Up.alloc ?_ _) | (with_reducible refine Up.drew ?_) | (with_reducible refine Up.drewN ?_ _) | (with_reducible refine Up.setCell ?_ ?_ _) | (with_reducible refine Up.call ?_ (by with_reducible assumption)) | go_size)))⟩, by (repeat' (first | (with_reducible exact Up.refl _) | (with_reducible assumption) | (with_reducible refine Up.alloc ?_ _) | (with_reducible refine Up.drew ?_) | (with_reducible refine Up.drewN ?_ _) | (with_reducible refine Up.setCell ?_ ?_ _) | (with_reducible refine Up.call ?_ (by with_reducible assumption)) | go_size))⟩
    · have d1' : (k' == 1) = false := by simpa using h1'
      have i2 : isI k' n' = false := by simp [isI, h1']
      clear hN hN2 hk hk' h1'
      obtain ⟨p, q, hp⟩ : ∃ p q, asReal 1 n = (p, q) := ⟨_, _, rfl⟩
      obtain ⟨p', q', hp'⟩ : ∃ p q, asReal k' n' = (p, q) := ⟨_, _, rfl⟩
      by_cases hq : q = 0
      · subst hq
        by_cases hq' : q' = 0
        · subst hq'
          have hG : real ((FixM.mul p p').1, (FixM.mul p p').2) = (rk, rn, re) := by rw [← hS]; simp [sums, i2, hp, hp', inexactI]
          have HG := Lib.hid hG
          have HP := Lib.hid hp
          have HP2 := Lib.hid hp'
          clear hS hG hp hp'
          go_enter Tryd.func12, Tryd.ntmps12
          go_wp2_with (first
            | (go_at_call 15; ((with_reducible refine (isNumber_calls 1 x a n s _).mono ?_); rw [HN.out]; rintro E w1 ⟨rfl, hu1⟩; have k_w1 := hu1.cells.1; have f_w1 := hu1.cells.2; have z_w1 := hu1.size; (try simp at z_w1); have l0_w1 : w.heap.size < w1.heap.size := (by omega); have l1_w1 : w.heap.size + 1 < w1.heap.size := (by omega)))
            | (go_at_call 15; ((with_reducible refine (isNumber_calls k' x' a' n' s' _).mono ?_); rw [HN2.out]; rintro E w2 ⟨rfl, hu2⟩; have k_w2 := hu2.cells.1; have f_w2 := hu2.cells.2; have z_w2 := hu2.size; (try simp at z_w2); have l0_w2 : w.heap.size < w2.heap.size := (by omega); have l1_w2 : w.heap.size + 1 < w2.heap.size := (by omega)))
            | (go_at_call 29; ((with_reducible refine (asReal_r 1 x a n s _ p 0 HP.out).mono ?_); rintro E w3 ⟨rfl, hu3⟩; have k_w3 := hu3.cells.1; have f_w3 := hu3.cells.2; have z_w3 := hu3.size; (try simp at z_w3); have l0_w3 : w.heap.size < w3.heap.size := (by omega); have l1_w3 : w.heap.size + 1 < w3.heap.size := (by omega)))
            | (go_at_call 29; ((with_reducible refine (asReal_r k' x' a' n' s' _ p' 0 HP2.out).mono ?_); rintro E w4 ⟨rfl, hu4⟩; have k_w4 := hu4.cells.1; have f_w4 := hu4.cells.2; have z_w4 := hu4.size; (try simp at z_w4); have l0_w4 : w.heap.size < w4.heap.size := (by omega); have l1_w4 : w.heap.size + 1 < w4.heap.size := (by omega)))
            | (go_at_call 33; ((with_reducible refine (Rfix.mul_calls _ _ _).mono ?_); rintro E w6 ⟨rfl, hu6⟩))
            | (go_at_call 30; ((with_reducible refine (gives_r _ _ rk rn re HG.out _).mono ?_); rintro E w7 ⟨⟨v, rfl, hv⟩, hu7⟩; have HV := Lib.hid hv; clear hv)))
          go_ret2
          exact ⟨⟨v, rfl, HV.out.of_up (by (repeat' (first | (with_reducible exact Up.refl _) | (with_reducible assumption) | (with_reducible refine Up.alloc ?_ _) | (with_reducible refine Up.drew ?_) | (with_reducible refine Up.drewN ?_ _) | (with_reducible refine Up.setCell ?_ ?_ _) | (with_reducible refine Up.call ?_ (by with_reducible assumption)) | go_size)))⟩, by (repeat' (first | (with_reducible exact Up.refl _) | (with_reducible assumption) | (with_reducible refine Up.alloc ?_ _) | (with_reducible refine Up.drew ?_) | (with_reducible refine Up.drewN ?_ _) | (with_reducible refine Up.setCell ?_ ?_ _) | (with_reducible refine Up.call ?_ (by with_reducible assumption)) | go_size))⟩
        · obtain ⟨rfl, rfl, rfl⟩ : 0 = rk ∧ 0 = rn ∧ q' = re := by simpa [sums, i2, hp, hp', hq'] using hS
          have dq : (q' == 0) = false := by simpa using hq'
          have HQ := Lib.hid hq'
          have HP := Lib.hid hp
          have HP2 := Lib.hid hp'
          clear hS hp hp' hq'
          go_enter Tryd.func12, Tryd.ntmps12
          go_wp2_with (first
            | (go_at_call 15; ((with_reducible refine (isNumber_calls 1 x a n s _).mono ?_); rw [HN.out]; rintro E w1 ⟨rfl, hu1⟩; have k_w1 := hu1.cells.1; have f_w1 := hu1.cells.2; have z_w1 := hu1.size; (try simp at z_w1); have l0_w1 : w.heap.size < w1.heap.size := (by omega); have l1_w1 : w.heap.size + 1 < w1.heap.size := (by omega)))
            | (go_at_call 15; ((with_reducible refine (isNumber_calls k' x' a' n' s' _).mono ?_); rw [HN2.out]; rintro E w2 ⟨rfl, hu2⟩; have k_w2 := hu2.cells.1; have f_w2 := hu2.cells.2; have z_w2 := hu2.size; (try simp at z_w2); have l0_w2 : w.heap.size < w2.heap.size := (by omega); have l1_w2 : w.heap.size + 1 < w2.heap.size := (by omega)))
            | (go_at_call 29; ((with_reducible refine (asReal_r 1 x a n s _ p 0 HP.out).mono ?_); rintro E w3 ⟨rfl, hu3⟩; have k_w3 := hu3.cells.1; have f_w3 := hu3.cells.2; have z_w3 := hu3.size; (try simp at z_w3); have l0_w3 : w.heap.size < w3.heap.size := (by omega); have l1_w3 : w.heap.size + 1 < w3.heap.size := (by omega)))
            | (go_at_call 29; ((with_reducible refine (asReal_r k' x' a' n' s' _ p' q' HP2.out).mono ?_); rintro E w4 ⟨rfl, hu4⟩; have k_w4 := hu4.cells.1; have f_w4 := hu4.cells.2; have z_w4 := hu4.size; (try simp at z_w4); have l0_w4 : w.heap.size < w4.heap.size := (by omega); have l1_w4 : w.heap.size + 1 < w4.heap.size := (by omega))))
          go_ret2
          exact ⟨⟨_, rfl, Or.inr ⟨HQ.out, rfl⟩⟩, by (repeat' (first | (with_reducible exact Up.refl _) | (with_reducible assumption) | (with_reducible refine Up.alloc ?_ _) | (with_reducible refine Up.drew ?_) | (with_reducible refine Up.drewN ?_ _) | (with_reducible refine Up.setCell ?_ ?_ _) | (with_reducible refine Up.call ?_ (by with_reducible assumption)) | go_size))⟩
      · obtain ⟨rfl, rfl, rfl⟩ : 0 = rk ∧ 0 = rn ∧ q = re := by simpa [sums, i2, hp, hp', hq] using hS
        have dq : (q == 0) = false := by simpa using hq
        have HQ := Lib.hid hq
        have HP := Lib.hid hp
        clear hS hp hp' hq
        go_enter Tryd.func12, Tryd.ntmps12
        go_wp2_with (first
          | (go_at_call 15; ((with_reducible refine (isNumber_calls 1 x a n s _).mono ?_); rw [HN.out]; rintro E w1 ⟨rfl, hu1⟩; have k_w1 := hu1.cells.1; have f_w1 := hu1.cells.2; have z_w1 := hu1.size; (try simp at z_w1); have l0_w1 : w.heap.size < w1.heap.size := (by omega); have l1_w1 : w.heap.size + 1 < w1.heap.size := (by omega)))
          | (go_at_call 15; ((with_reducible refine (isNumber_calls k' x' a' n' s' _).mono ?_); rw [HN2.out]; rintro E w2 ⟨rfl, hu2⟩; have k_w2 := hu2.cells.1; have f_w2 := hu2.cells.2; have z_w2 := hu2.size; (try simp at z_w2); have l0_w2 : w.heap.size < w2.heap.size := (by omega); have l1_w2 : w.heap.size + 1 < w2.heap.size := (by omega)))
          | (go_at_call 29; ((with_reducible refine (asReal_r 1 x a n s _ p q HP.out).mono ?_); rintro E w3 ⟨rfl, hu3⟩; have k_w3 := hu3.cells.1; have f_w3 := hu3.cells.2; have z_w3 := hu3.size; (try simp at z_w3); have l0_w3 : w.heap.size < w3.heap.size := (by omega); have l1_w3 : w.heap.size + 1 < w3.heap.size := (by omega))))
        go_ret2
        exact ⟨⟨_, rfl, Or.inr ⟨HQ.out, rfl⟩⟩, by (repeat' (first | (with_reducible exact Up.refl _) | (with_reducible assumption) | (with_reducible refine Up.alloc ?_ _) | (with_reducible refine Up.drew ?_) | (with_reducible refine Up.drewN ?_ _) | (with_reducible refine Up.setCell ?_ ?_ _) | (with_reducible refine Up.call ?_ (by with_reducible assumption)) | go_size))⟩
  · have d1 : (k == 1) = false := by simpa using h1
    have i1 : isI k n = false := by simp [isI, h1]
    clear hN hN2 hk hk' h1
    obtain ⟨p, q, hp⟩ : ∃ p q, asReal k n = (p, q) := ⟨_, _, rfl⟩
    obtain ⟨p', q', hp'⟩ : ∃ p q, asReal k' n' = (p, q) := ⟨_, _, rfl⟩
    by_cases hq : q = 0
    · subst hq
      by_cases hq' : q' = 0
      · subst hq'
        have hG : real ((FixM.mul p p').1, (FixM.mul p p').2) = (rk, rn, re) := by rw [← hS]; simp [sums, i1, hp, hp', inexactI]
        have HG := Lib.hid hG
        have HP := Lib.hid hp
        have HP2 := Lib.hid hp'
        clear hS hG hp hp'
        go_enter Tryd.func12, Tryd.ntmps12
        go_wp2_with (first
          | (go_at_call 15; ((with_reducible refine (isNumber_calls k x a n s _).mono ?_); rw [HN.out]; rintro E w1 ⟨rfl, hu1⟩; have k_w1 := hu1.cells.1; have f_w1 := hu1.cells.2; have z_w1 := hu1.size; (try simp at z_w1); have l0_w1 : w.heap.size < w1.heap.size := (by omega); have l1_w1 : w.heap.size + 1 < w1.heap.size := (by omega)))
          | (go_at_call 15; ((with_reducible refine (isNumber_calls k' x' a' n' s' _).mono ?_); rw [HN2.out]; rintro E w2 ⟨rfl, hu2⟩; have k_w2 := hu2.cells.1; have f_w2 := hu2.cells.2; have z_w2 := hu2.size; (try simp at z_w2); have l0_w2 : w.heap.size < w2.heap.size := (by omega); have l1_w2 : w.heap.size + 1 < w2.heap.size := (by omega)))
          | (go_at_call 29; ((with_reducible refine (asReal_r k x a n s _ p 0 HP.out).mono ?_); rintro E w3 ⟨rfl, hu3⟩; have k_w3 := hu3.cells.1; have f_w3 := hu3.cells.2; have z_w3 := hu3.size; (try simp at z_w3); have l0_w3 : w.heap.size < w3.heap.size := (by omega); have l1_w3 : w.heap.size + 1 < w3.heap.size := (by omega)))
          | (go_at_call 29; ((with_reducible refine (asReal_r k' x' a' n' s' _ p' 0 HP2.out).mono ?_); rintro E w4 ⟨rfl, hu4⟩; have k_w4 := hu4.cells.1; have f_w4 := hu4.cells.2; have z_w4 := hu4.size; (try simp at z_w4); have l0_w4 : w.heap.size < w4.heap.size := (by omega); have l1_w4 : w.heap.size + 1 < w4.heap.size := (by omega)))
          | (go_at_call 33; ((with_reducible refine (Rfix.mul_calls _ _ _).mono ?_); rintro E w6 ⟨rfl, hu6⟩))
          | (go_at_call 30; ((with_reducible refine (gives_r _ _ rk rn re HG.out _).mono ?_); rintro E w7 ⟨⟨v, rfl, hv⟩, hu7⟩; have HV := Lib.hid hv; clear hv)))
        go_ret2
        exact ⟨⟨v, rfl, HV.out.of_up (by (repeat' (first | (with_reducible exact Up.refl _) | (with_reducible assumption) | (with_reducible refine Up.alloc ?_ _) | (with_reducible refine Up.drew ?_) | (with_reducible refine Up.drewN ?_ _) | (with_reducible refine Up.setCell ?_ ?_ _) | (with_reducible refine Up.call ?_ (by with_reducible assumption)) | go_size)))⟩, by (repeat' (first | (with_reducible exact Up.refl _) | (with_reducible assumption) | (with_reducible refine Up.alloc ?_ _) | (with_reducible refine Up.drew ?_) | (with_reducible refine Up.drewN ?_ _) | (with_reducible refine Up.setCell ?_ ?_ _) | (with_reducible refine Up.call ?_ (by with_reducible assumption)) | go_size))⟩
      · obtain ⟨rfl, rfl, rfl⟩ : 0 = rk ∧ 0 = rn ∧ q' = re := by simpa [sums, i1, hp, hp', hq'] using hS
        have dq : (q' == 0) = false := by simpa using hq'
        have HQ := Lib.hid hq'
        have HP := Lib.hid hp
        have HP2 := Lib.hid hp'
        clear hS hp hp' hq'
        go_enter Tryd.func12, Tryd.ntmps12
        go_wp2_with (first
          | (go_at_call 15; ((with_reducible refine (isNumber_calls k x a n s _).mono ?_); rw [HN.out]; rintro E w1 ⟨rfl, hu1⟩; have k_w1 := hu1.cells.1; have f_w1 := hu1.cells.2; have z_w1 := hu1.size; (try simp at z_w1); have l0_w1 : w.heap.size < w1.heap.size := (by omega); have l1_w1 : w.heap.size + 1 < w1.heap.size := (by omega)))
          | (go_at_call 15; ((with_reducible refine (isNumber_calls k' x' a' n' s' _).mono ?_); rw [HN2.out]; rintro E w2 ⟨rfl, hu2⟩; have k_w2 := hu2.cells.1; have f_w2 := hu2.cells.2; have z_w2 := hu2.size; (try simp at z_w2); have l0_w2 : w.heap.size < w2.heap.size := (by omega); have l1_w2 : w.heap.size + 1 < w2.heap.size := (by omega)))
          | (go_at_call 29; ((with_reducible refine (asReal_r k x a n s _ p 0 HP.out).mono ?_); rintro E w3 ⟨rfl, hu3⟩; have k_w3 := hu3.cells.1; have f_w3 := hu3.cells.2; have z_w3 := hu3.size; (try simp at z_w3); have l0_w3 : w.heap.size < w3.heap.size := (by omega); have l1_w3 : w.heap.size + 1 < w3.heap.size := (by omega)))
          | (go_at_call 29; ((with_reducible refine (asReal_r k' x' a' n' s' _ p' q' HP2.out).mono ?_); rintro E w4 ⟨rfl, hu4⟩; have k_w4 := hu4.cells.1; have f_w4 := hu4.cells.2; have z_w4 := hu4.size; (try simp at z_w4); have l0_w4 : w.heap.size < w4.heap.size := (by omega); have l1_w4 : w.heap.size + 1 < w4.heap.size := (by omega))))
        go_ret2
        exact ⟨⟨_, rfl, Or.inr ⟨HQ.out, rfl⟩⟩, by (repeat' (first | (with_reducible exact Up.refl _) | (with_reducible assumption) | (with_reducible refine Up.alloc ?_ _) | (with_reducible refine Up.drew ?_) | (with_reducible refine Up.drewN ?_ _) | (with_reducible refine Up.setCell ?_ ?_ _) | (with_reducible refine Up.call ?_ (by with_reducible assumption)) | go_size))⟩
    · obtain ⟨rfl, rfl, rfl⟩ : 0 = rk ∧ 0 = rn ∧ q = re := by simpa [sums, i1, hp, hp', hq] using hS
      have dq : (q == 0) = false := by simpa using hq
      have HQ := Lib.hid hq
      have HP := Lib.hid hp
      clear hS hp hp' hq
      go_enter Tryd.func12, Tryd.ntmps12
      go_wp2_with (first
        | (go_at_call 15; ((with_reducible refine (isNumber_calls k x a n s _).mono ?_); rw [HN.out]; rintro E w1 ⟨rfl, hu1⟩; have k_w1 := hu1.cells.1; have f_w1 := hu1.cells.2; have z_w1 := hu1.size; (try simp at z_w1); have l0_w1 : w.heap.size < w1.heap.size := (by omega); have l1_w1 : w.heap.size + 1 < w1.heap.size := (by omega)))
        | (go_at_call 15; ((with_reducible refine (isNumber_calls k' x' a' n' s' _).mono ?_); rw [HN2.out]; rintro E w2 ⟨rfl, hu2⟩; have k_w2 := hu2.cells.1; have f_w2 := hu2.cells.2; have z_w2 := hu2.size; (try simp at z_w2); have l0_w2 : w.heap.size < w2.heap.size := (by omega); have l1_w2 : w.heap.size + 1 < w2.heap.size := (by omega)))
        | (go_at_call 29; ((with_reducible refine (asReal_r k x a n s _ p q HP.out).mono ?_); rintro E w3 ⟨rfl, hu3⟩; have k_w3 := hu3.cells.1; have f_w3 := hu3.cells.2; have z_w3 := hu3.size; (try simp at z_w3); have l0_w3 : w.heap.size < w3.heap.size := (by omega); have l1_w3 : w.heap.size + 1 < w3.heap.size := (by omega))))
      go_ret2
      exact ⟨⟨_, rfl, Or.inr ⟨HQ.out, rfl⟩⟩, by (repeat' (first | (with_reducible exact Up.refl _) | (with_reducible assumption) | (with_reducible refine Up.alloc ?_ _) | (with_reducible refine Up.drew ?_) | (with_reducible refine Up.drewN ?_ _) | (with_reducible refine Up.setCell ?_ ?_ _) | (with_reducible refine Up.call ?_ (by with_reducible assumption)) | go_size))⟩

end Go.Proofs.YtakickodehebmaaDoor.Ar
end
