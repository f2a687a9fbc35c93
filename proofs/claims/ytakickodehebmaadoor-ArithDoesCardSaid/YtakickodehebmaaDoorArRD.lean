/- The reference's Arith, of one operand. -/
import Derived.Test.YtakickodehebmaaDoorArRC
import Derived.Test.YtakickodehebmaaDoorArL
namespace Go.Proofs.YtakickodehebmaaDoor.Ar
open Go.ChangeShapes Go.WideShapes Go.ChangeAt Go.RowKit
open Go.Proofs.YtakickodehebmaaDoor.FixM (fits within)
open Go.Proofs.YtakickodehebmaaDoor.ArM
set_option linter.unusedVariables false
set_option linter.unusedSimpArgs false

theorem mul_bound {a b : Int} (h1 : -2147483648 ≤ a) (h2 : a ≤ 2147483647) (h3 : -2147483648 ≤ b) (h4 : b ≤ 2147483647) : -4611686018427387904 ≤ a * b ∧ a * b ≤ 4611686018427387904 := by
  have h : (a * b).natAbs ≤ 2147483648 * 2147483648 := by
    rw [Int.natAbs_mul]
    exact Nat.mul_le_mul (by omega) (by omega)
  omega

set_option maxRecDepth 100000 in
set_option maxHeartbeats 4000000 in
theorem arith_0 (k : Int) (x : Bool) (a n : Int) (s : ByteArray)  (g cp : Nat) (w : World) (R : Cs w g #[.int .i64 k, .bool x, .int .i64 a, .int .i64 n, .string s, .pointer none, .pointer none, .pointer none, .int .i64 0, .int .i64 0]) (hg : g < w.heap.size) (rk rn re : Int) (hR : un 0 k n = (rk, rn, re)) :
    Calls Tryd.prog 12 #[.string ⟨#[110, 101, 103]⟩, .slice (some ⟨g, 0, none⟩) 1 cp] w fun E w' => GivesR w rk rn re E w' ∧ Up w w' := by
  have hg1 : g < w.heap.size + 1 := by omega
  have hg2 : g < w.heap.size + 1 + 1 := by omega
  have hgn : ¬ w.heap.size = g := by omega
  have hgn1 : ¬ w.heap.size + 1 = g := by omega
  have c0 := R 0 _ rfl
  have c1 := R 1 _ rfl
  have c2 := R 2 _ rfl
  have c3 := R 3 _ rfl
  have c4 := R 4 _ rfl
  have c5 := R 5 _ rfl
  have c6 := R 6 _ rfl
  have c7 := R 7 _ rfl
  have c8 := R 8 _ rfl
  have c9 := R 9 _ rfl
  clear R
  cases hN : numb k n
  · obtain ⟨rfl, rfl, rfl⟩ : 0 = rk ∧ 0 = rn ∧ 16 = re := by simpa [un, hN, tcheck] using hR
    have HN := Lib.hid hN
    clear hN hR
    go_enter Tryd.func12, Tryd.ntmps12
    go_wp2_with (first
      | (go_at_call 15; ((with_reducible refine (isNumber_calls k x a n s _).mono ?_); rw [HN.out]; rintro E w1 ⟨rfl, hu1⟩; have k_w1 := hu1.cells.1; have f_w1 := hu1.cells.2; have z_w1 := hu1.size; (try simp at z_w1); have l0_w1 : w.heap.size < w1.heap.size := (by omega))))
    go_ret2
    exact ⟨⟨_, rfl, Or.inr ⟨by decide, rfl⟩⟩, by (repeat' (first | (with_reducible exact Up.refl _) | (with_reducible assumption) | (with_reducible refine Up.alloc ?_ _) | (with_reducible refine Up.drew ?_) | (with_reducible refine Up.drewN ?_ _) | (with_reducible refine Up.setCell ?_ ?_ _) | (with_reducible refine Up.call ?_ (by with_reducible assumption)) | go_size))⟩
  · have HN := Lib.hid hN
    have HR := Lib.hid hR
    clear hN hR
    go_enter Tryd.func12, Tryd.ntmps12
    go_wp2_with (first
      | (go_at_call 15; ((with_reducible refine (isNumber_calls k x a n s _).mono ?_); rw [HN.out]; rintro E w1 ⟨rfl, hu1⟩; have k_w1 := hu1.cells.1; have f_w1 := hu1.cells.2; have z_w1 := hu1.size; (try simp at z_w1); have l0_w1 : w.heap.size < w1.heap.size := (by omega)))
      | (go_at_call 23; ((with_reducible refine (unary_0 k x a n s _ HN.out rk rn re HR.out).mono ?_); rintro E w2 ⟨⟨v, rfl, hv⟩, hu2⟩; have HV := Lib.hid hv; clear hv)))
    go_ret2
    exact ⟨⟨v, rfl, HV.out.of_up (by (repeat' (first | (with_reducible exact Up.refl _) | (with_reducible assumption) | (with_reducible refine Up.alloc ?_ _) | (with_reducible refine Up.drew ?_) | (with_reducible refine Up.drewN ?_ _) | (with_reducible refine Up.setCell ?_ ?_ _) | (with_reducible refine Up.call ?_ (by with_reducible assumption)) | go_size)))⟩, by (repeat' (first | (with_reducible exact Up.refl _) | (with_reducible assumption) | (with_reducible refine Up.alloc ?_ _) | (with_reducible refine Up.drew ?_) | (with_reducible refine Up.drewN ?_ _) | (with_reducible refine Up.setCell ?_ ?_ _) | (with_reducible refine Up.call ?_ (by with_reducible assumption)) | go_size))⟩

set_option maxRecDepth 100000 in
set_option maxHeartbeats 4000000 in
theorem arith_1 (k : Int) (x : Bool) (a n : Int) (s : ByteArray)  (g cp : Nat) (w : World) (R : Cs w g #[.int .i64 k, .bool x, .int .i64 a, .int .i64 n, .string s, .pointer none, .pointer none, .pointer none, .int .i64 0, .int .i64 0]) (hg : g < w.heap.size) (rk rn re : Int) (hR : un 1 k n = (rk, rn, re)) :
    Calls Tryd.prog 12 #[.string ⟨#[97, 98, 115]⟩, .slice (some ⟨g, 0, none⟩) 1 cp] w fun E w' => GivesR w rk rn re E w' ∧ Up w w' := by
  have hg1 : g < w.heap.size + 1 := by omega
  have hg2 : g < w.heap.size + 1 + 1 := by omega
  have hgn : ¬ w.heap.size = g := by omega
  have hgn1 : ¬ w.heap.size + 1 = g := by omega
  have c0 := R 0 _ rfl
  have c1 := R 1 _ rfl
  have c2 := R 2 _ rfl
  have c3 := R 3 _ rfl
  have c4 := R 4 _ rfl
  have c5 := R 5 _ rfl
  have c6 := R 6 _ rfl
  have c7 := R 7 _ rfl
  have c8 := R 8 _ rfl
  have c9 := R 9 _ rfl
  clear R
  cases hN : numb k n
  · obtain ⟨rfl, rfl, rfl⟩ : 0 = rk ∧ 0 = rn ∧ 16 = re := by simpa [un, hN, tcheck] using hR
    have HN := Lib.hid hN
    clear hN hR
    go_enter Tryd.func12, Tryd.ntmps12
    go_wp2_with (first
      | (go_at_call 15; ((with_reducible refine (isNumber_calls k x a n s _).mono ?_); rw [HN.out]; rintro E w1 ⟨rfl, hu1⟩; have k_w1 := hu1.cells.1; have f_w1 := hu1.cells.2; have z_w1 := hu1.size; (try simp at z_w1); have l0_w1 : w.heap.size < w1.heap.size := (by omega))))
    go_ret2
    exact ⟨⟨_, rfl, Or.inr ⟨by decide, rfl⟩⟩, by (repeat' (first | (with_reducible exact Up.refl _) | (with_reducible assumption) | (with_reducible refine Up.alloc ?_ _) | (with_reducible refine Up.drew ?_) | (with_reducible refine Up.drewN ?_ _) | (with_reducible refine Up.setCell ?_ ?_ _) | (with_reducible refine Up.call ?_ (by with_reducible assumption)) | go_size))⟩
  · have HN := Lib.hid hN
    have HR := Lib.hid hR
    clear hN hR
    go_enter Tryd.func12, Tryd.ntmps12
    go_wp2_with (first
      | (go_at_call 15; ((with_reducible refine (isNumber_calls k x a n s _).mono ?_); rw [HN.out]; rintro E w1 ⟨rfl, hu1⟩; have k_w1 := hu1.cells.1; have f_w1 := hu1.cells.2; have z_w1 := hu1.size; (try simp at z_w1); have l0_w1 : w.heap.size < w1.heap.size := (by omega)))
      | (go_at_call 23; ((with_reducible refine (unary_1 k x a n s _ HN.out rk rn re HR.out).mono ?_); rintro E w2 ⟨⟨v, rfl, hv⟩, hu2⟩; have HV := Lib.hid hv; clear hv)))
    go_ret2
    exact ⟨⟨v, rfl, HV.out.of_up (by (repeat' (first | (with_reducible exact Up.refl _) | (with_reducible assumption) | (with_reducible refine Up.alloc ?_ _) | (with_reducible refine Up.drew ?_) | (with_reducible refine Up.drewN ?_ _) | (with_reducible refine Up.setCell ?_ ?_ _) | (with_reducible refine Up.call ?_ (by with_reducible assumption)) | go_size)))⟩, by (repeat' (first | (with_reducible exact Up.refl _) | (with_reducible assumption) | (with_reducible refine Up.alloc ?_ _) | (with_reducible refine Up.drew ?_) | (with_reducible refine Up.drewN ?_ _) | (with_reducible refine Up.setCell ?_ ?_ _) | (with_reducible refine Up.call ?_ (by with_reducible assumption)) | go_size))⟩

set_option maxRecDepth 100000 in
set_option maxHeartbeats 4000000 in
theorem arith_2 (k : Int) (x : Bool) (a n : Int) (s : ByteArray)  (g cp : Nat) (w : World) (R : Cs w g #[.int .i64 k, .bool x, .int .i64 a, .int .i64 n, .string s, .pointer none, .pointer none, .pointer none, .int .i64 0, .int .i64 0]) (hg : g < w.heap.size) (rk rn re : Int) (hR : un 2 k n = (rk, rn, re)) :
    Calls Tryd.prog 12 #[.string ⟨#[99, 101, 105, 108, 105, 110, 103]⟩, .slice (some ⟨g, 0, none⟩) 1 cp] w fun E w' => GivesR w rk rn re E w' ∧ Up w w' := by
  have hg1 : g < w.heap.size + 1 := by omega
  have hg2 : g < w.heap.size + 1 + 1 := by omega
  have hgn : ¬ w.heap.size = g := by omega
  have hgn1 : ¬ w.heap.size + 1 = g := by omega
  have c0 := R 0 _ rfl
  have c1 := R 1 _ rfl
  have c2 := R 2 _ rfl
  have c3 := R 3 _ rfl
  have c4 := R 4 _ rfl
  have c5 := R 5 _ rfl
  have c6 := R 6 _ rfl
  have c7 := R 7 _ rfl
  have c8 := R 8 _ rfl
  have c9 := R 9 _ rfl
  clear R
  cases hN : numb k n
  · obtain ⟨rfl, rfl, rfl⟩ : 0 = rk ∧ 0 = rn ∧ 16 = re := by simpa [un, hN, tcheck] using hR
    have HN := Lib.hid hN
    clear hN hR
    go_enter Tryd.func12, Tryd.ntmps12
    go_wp2_with (first
      | (go_at_call 15; ((with_reducible refine (isNumber_calls k x a n s _).mono ?_); rw [HN.out]; rintro E w1 ⟨rfl, hu1⟩; have k_w1 := hu1.cells.1; have f_w1 := hu1.cells.2; have z_w1 := hu1.size; (try simp at z_w1); have l0_w1 : w.heap.size < w1.heap.size := (by omega))))
    go_ret2
    exact ⟨⟨_, rfl, Or.inr ⟨by decide, rfl⟩⟩, by (repeat' (first | (with_reducible exact Up.refl _) | (with_reducible assumption) | (with_reducible refine Up.alloc ?_ _) | (with_reducible refine Up.drew ?_) | (with_reducible refine Up.drewN ?_ _) | (with_reducible refine Up.setCell ?_ ?_ _) | (with_reducible refine Up.call ?_ (by with_reducible assumption)) | go_size))⟩
  · have HN := Lib.hid hN
    have HR := Lib.hid hR
    clear hN hR
    go_enter Tryd.func12, Tryd.ntmps12
    go_wp2_with (first
      | (go_at_call 15; ((with_reducible refine (isNumber_calls k x a n s _).mono ?_); rw [HN.out]; rintro E w1 ⟨rfl, hu1⟩; have k_w1 := hu1.cells.1; have f_w1 := hu1.cells.2; have z_w1 := hu1.size; (try simp at z_w1); have l0_w1 : w.heap.size < w1.heap.size := (by omega)))
      | (go_at_call 23; ((with_reducible refine (unary_2 k x a n s _ HN.out rk rn re HR.out).mono ?_); rintro E w2 ⟨⟨v, rfl, hv⟩, hu2⟩; have HV := Lib.hid hv; clear hv)))
    go_ret2
    exact ⟨⟨v, rfl, HV.out.of_up (by (repeat' (first | (with_reducible exact Up.refl _) | (with_reducible assumption) | (with_reducible refine Up.alloc ?_ _) | (with_reducible refine Up.drew ?_) | (with_reducible refine Up.drewN ?_ _) | (with_reducible refine Up.setCell ?_ ?_ _) | (with_reducible refine Up.call ?_ (by with_reducible assumption)) | go_size)))⟩, by (repeat' (first | (with_reducible exact Up.refl _) | (with_reducible assumption) | (with_reducible refine Up.alloc ?_ _) | (with_reducible refine Up.drew ?_) | (with_reducible refine Up.drewN ?_ _) | (with_reducible refine Up.setCell ?_ ?_ _) | (with_reducible refine Up.call ?_ (by with_reducible assumption)) | go_size))⟩

set_option maxRecDepth 100000 in
set_option maxHeartbeats 4000000 in
theorem arith_3 (k : Int) (x : Bool) (a n : Int) (s : ByteArray)  (g cp : Nat) (w : World) (R : Cs w g #[.int .i64 k, .bool x, .int .i64 a, .int .i64 n, .string s, .pointer none, .pointer none, .pointer none, .int .i64 0, .int .i64 0]) (hg : g < w.heap.size) (rk rn re : Int) (hR : un 3 k n = (rk, rn, re)) :
    Calls Tryd.prog 12 #[.string ⟨#[102, 108, 111, 111, 114]⟩, .slice (some ⟨g, 0, none⟩) 1 cp] w fun E w' => GivesR w rk rn re E w' ∧ Up w w' := by
  have hg1 : g < w.heap.size + 1 := by omega
  have hg2 : g < w.heap.size + 1 + 1 := by omega
  have hgn : ¬ w.heap.size = g := by omega
  have hgn1 : ¬ w.heap.size + 1 = g := by omega
  have c0 := R 0 _ rfl
  have c1 := R 1 _ rfl
  have c2 := R 2 _ rfl
  have c3 := R 3 _ rfl
  have c4 := R 4 _ rfl
  have c5 := R 5 _ rfl
  have c6 := R 6 _ rfl
  have c7 := R 7 _ rfl
  have c8 := R 8 _ rfl
  have c9 := R 9 _ rfl
  clear R
  cases hN : numb k n
  · obtain ⟨rfl, rfl, rfl⟩ : 0 = rk ∧ 0 = rn ∧ 16 = re := by simpa [un, hN, tcheck] using hR
    have HN := Lib.hid hN
    clear hN hR
    go_enter Tryd.func12, Tryd.ntmps12
    go_wp2_with (first
      | (go_at_call 15; ((with_reducible refine (isNumber_calls k x a n s _).mono ?_); rw [HN.out]; rintro E w1 ⟨rfl, hu1⟩; have k_w1 := hu1.cells.1; have f_w1 := hu1.cells.2; have z_w1 := hu1.size; (try simp at z_w1); have l0_w1 : w.heap.size < w1.heap.size := (by omega))))
    go_ret2
    exact ⟨⟨_, rfl, Or.inr ⟨by decide, rfl⟩⟩, by (repeat' (first | (with_reducible exact Up.refl _) | (with_reducible assumption) | (with_reducible refine Up.alloc ?_ _) | (with_reducible refine Up.drew ?_) | (with_reducible refine Up.drewN ?_ _) | (with_reducible refine Up.setCell ?_ ?_ _) | (with_reducible refine Up.call ?_ (by with_reducible assumption)) | go_size))⟩
  · have HN := Lib.hid hN
    have HR := Lib.hid hR
    clear hN hR
    go_enter Tryd.func12, Tryd.ntmps12
    go_wp2_with (first
      | (go_at_call 15; ((with_reducible refine (isNumber_calls k x a n s _).mono ?_); rw [HN.out]; rintro E w1 ⟨rfl, hu1⟩; have k_w1 := hu1.cells.1; have f_w1 := hu1.cells.2; have z_w1 := hu1.size; (try simp at z_w1); have l0_w1 : w.heap.size < w1.heap.size := (by omega)))
      | (go_at_call 23; ((with_reducible refine (unary_3 k x a n s _ HN.out rk rn re HR.out).mono ?_); rintro E w2 ⟨⟨v, rfl, hv⟩, hu2⟩; have HV := Lib.hid hv; clear hv)))
    go_ret2
    exact ⟨⟨v, rfl, HV.out.of_up (by (repeat' (first | (with_reducible exact Up.refl _) | (with_reducible assumption) | (with_reducible refine Up.alloc ?_ _) | (with_reducible refine Up.drew ?_) | (with_reducible refine Up.drewN ?_ _) | (with_reducible refine Up.setCell ?_ ?_ _) | (with_reducible refine Up.call ?_ (by with_reducible assumption)) | go_size)))⟩, by (repeat' (first | (with_reducible exact Up.refl _) | (with_reducible assumption) | (with_reducible refine Up.alloc ?_ _) | (with_reducible refine Up.drew ?_) | (with_reducible refine Up.drewN ?_ _) | (with_reducible refine Up.setCell ?_ ?_ _) | (with_reducible refine Up.call ?_ (by with_reducible assumption)) | go_size))⟩

set_option maxRecDepth 100000 in
set_option maxHeartbeats 4000000 in
theorem arith_4 (k : Int) (x : Bool) (a n : Int) (s : ByteArray)  (g cp : Nat) (w : World) (R : Cs w g #[.int .i64 k, .bool x, .int .i64 a, .int .i64 n, .string s, .pointer none, .pointer none, .pointer none, .int .i64 0, .int .i64 0]) (hg : g < w.heap.size) (rk rn re : Int) (hR : un 4 k n = (rk, rn, re)) :
    Calls Tryd.prog 12 #[.string ⟨#[114, 111, 117, 110, 100]⟩, .slice (some ⟨g, 0, none⟩) 1 cp] w fun E w' => GivesR w rk rn re E w' ∧ Up w w' := by
  have hg1 : g < w.heap.size + 1 := by omega
  have hg2 : g < w.heap.size + 1 + 1 := by omega
  have hgn : ¬ w.heap.size = g := by omega
  have hgn1 : ¬ w.heap.size + 1 = g := by omega
  have c0 := R 0 _ rfl
  have c1 := R 1 _ rfl
  have c2 := R 2 _ rfl
  have c3 := R 3 _ rfl
  have c4 := R 4 _ rfl
  have c5 := R 5 _ rfl
  have c6 := R 6 _ rfl
  have c7 := R 7 _ rfl
  have c8 := R 8 _ rfl
  have c9 := R 9 _ rfl
  clear R
  cases hN : numb k n
  · obtain ⟨rfl, rfl, rfl⟩ : 0 = rk ∧ 0 = rn ∧ 16 = re := by simpa [un, hN, tcheck] using hR
    have HN := Lib.hid hN
    clear hN hR
    go_enter Tryd.func12, Tryd.ntmps12
    go_wp2_with (first
      | (go_at_call 15; ((with_reducible refine (isNumber_calls k x a n s _).mono ?_); rw [HN.out]; rintro E w1 ⟨rfl, hu1⟩; have k_w1 := hu1.cells.1; have f_w1 := hu1.cells.2; have z_w1 := hu1.size; (try simp at z_w1); have l0_w1 : w.heap.size < w1.heap.size := (by omega))))
    go_ret2
    exact ⟨⟨_, rfl, Or.inr ⟨by decide, rfl⟩⟩, by (repeat' (first | (with_reducible exact Up.refl _) | (with_reducible assumption) | (with_reducible refine Up.alloc ?_ _) | (with_reducible refine Up.drew ?_) | (with_reducible refine Up.drewN ?_ _) | (with_reducible refine Up.setCell ?_ ?_ _) | (with_reducible refine Up.call ?_ (by with_reducible assumption)) | go_size))⟩
  · have HN := Lib.hid hN
    have HR := Lib.hid hR
    clear hN hR
    go_enter Tryd.func12, Tryd.ntmps12
    go_wp2_with (first
      | (go_at_call 15; ((with_reducible refine (isNumber_calls k x a n s _).mono ?_); rw [HN.out]; rintro E w1 ⟨rfl, hu1⟩; have k_w1 := hu1.cells.1; have f_w1 := hu1.cells.2; have z_w1 := hu1.size; (try simp at z_w1); have l0_w1 : w.heap.size < w1.heap.size := (by omega)))
      | (go_at_call 23; ((with_reducible refine (unary_4 k x a n s _ HN.out rk rn re HR.out).mono ?_); rintro E w2 ⟨⟨v, rfl, hv⟩, hu2⟩; have HV := Lib.hid hv; clear hv)))
    go_ret2
    exact ⟨⟨v, rfl, HV.out.of_up (by (repeat' (first | (with_reducible exact Up.refl _) | (with_reducible assumption) | (with_reducible refine Up.alloc ?_ _) | (with_reducible refine Up.drew ?_) | (with_reducible refine Up.drewN ?_ _) | (with_reducible refine Up.setCell ?_ ?_ _) | (with_reducible refine Up.call ?_ (by with_reducible assumption)) | go_size)))⟩, by (repeat' (first | (with_reducible exact Up.refl _) | (with_reducible assumption) | (with_reducible refine Up.alloc ?_ _) | (with_reducible refine Up.drew ?_) | (with_reducible refine Up.drewN ?_ _) | (with_reducible refine Up.setCell ?_ ?_ _) | (with_reducible refine Up.call ?_ (by with_reducible assumption)) | go_size))⟩

set_option maxRecDepth 100000 in
set_option maxHeartbeats 4000000 in
theorem arith_5 (k : Int) (x : Bool) (a n : Int) (s : ByteArray)  (g cp : Nat) (w : World) (R : Cs w g #[.int .i64 k, .bool x, .int .i64 a, .int .i64 n, .string s, .pointer none, .pointer none, .pointer none, .int .i64 0, .int .i64 0]) (hg : g < w.heap.size) (rk rn re : Int) (hR : un 5 k n = (rk, rn, re)) :
    Calls Tryd.prog 12 #[.string ⟨#[116, 114, 117, 110, 99, 97, 116, 101]⟩, .slice (some ⟨g, 0, none⟩) 1 cp] w fun E w' => GivesR w rk rn re E w' ∧ Up w w' := by
  have hg1 : g < w.heap.size + 1 := by omega
  have hg2 : g < w.heap.size + 1 + 1 := by omega
  have hgn : ¬ w.heap.size = g := by omega
  have hgn1 : ¬ w.heap.size + 1 = g := by omega
  have c0 := R 0 _ rfl
  have c1 := R 1 _ rfl
  have c2 := R 2 _ rfl
  have c3 := R 3 _ rfl
  have c4 := R 4 _ rfl
  have c5 := R 5 _ rfl
  have c6 := R 6 _ rfl
  have c7 := R 7 _ rfl
  have c8 := R 8 _ rfl
  have c9 := R 9 _ rfl
  clear R
  cases hN : numb k n
  · obtain ⟨rfl, rfl, rfl⟩ : 0 = rk ∧ 0 = rn ∧ 16 = re := by simpa [un, hN, tcheck] using hR
    have HN := Lib.hid hN
    clear hN hR
    go_enter Tryd.func12, Tryd.ntmps12
    go_wp2_with (first
      | (go_at_call 15; ((with_reducible refine (isNumber_calls k x a n s _).mono ?_); rw [HN.out]; rintro E w1 ⟨rfl, hu1⟩; have k_w1 := hu1.cells.1; have f_w1 := hu1.cells.2; have z_w1 := hu1.size; (try simp at z_w1); have l0_w1 : w.heap.size < w1.heap.size := (by omega))))
    go_ret2
    exact ⟨⟨_, rfl, Or.inr ⟨by decide, rfl⟩⟩, by (repeat' (first | (with_reducible exact Up.refl _) | (with_reducible assumption) | (with_reducible refine Up.alloc ?_ _) | (with_reducible refine Up.drew ?_) | (with_reducible refine Up.drewN ?_ _) | (with_reducible refine Up.setCell ?_ ?_ _) | (with_reducible refine Up.call ?_ (by with_reducible assumption)) | go_size))⟩
  · have HN := Lib.hid hN
    have HR := Lib.hid hR
    clear hN hR
    go_enter Tryd.func12, Tryd.ntmps12
    go_wp2_with (first
      | (go_at_call 15; ((with_reducible refine (isNumber_calls k x a n s _).mono ?_); rw [HN.out]; rintro E w1 ⟨rfl, hu1⟩; have k_w1 := hu1.cells.1; have f_w1 := hu1.cells.2; have z_w1 := hu1.size; (try simp at z_w1); have l0_w1 : w.heap.size < w1.heap.size := (by omega)))
      | (go_at_call 23; ((with_reducible refine (unary_5 k x a n s _ HN.out rk rn re HR.out).mono ?_); rintro E w2 ⟨⟨v, rfl, hv⟩, hu2⟩; have HV := Lib.hid hv; clear hv)))
    go_ret2
    exact ⟨⟨v, rfl, HV.out.of_up (by (repeat' (first | (with_reducible exact Up.refl _) | (with_reducible assumption) | (with_reducible refine Up.alloc ?_ _) | (with_reducible refine Up.drew ?_) | (with_reducible refine Up.drewN ?_ _) | (with_reducible refine Up.setCell ?_ ?_ _) | (with_reducible refine Up.call ?_ (by with_reducible assumption)) | go_size)))⟩, by (repeat' (first | (with_reducible exact Up.refl _) | (with_reducible assumption) | (with_reducible refine Up.alloc ?_ _) | (with_reducible refine Up.drew ?_) | (with_reducible refine Up.drewN ?_ _) | (with_reducible refine Up.setCell ?_ ?_ _) | (with_reducible refine Up.call ?_ (by with_reducible assumption)) | go_size))⟩

set_option maxRecDepth 100000 in
set_option maxHeartbeats 4000000 in
theorem arith_6 (k : Int) (x : Bool) (a n : Int) (s : ByteArray)  (g cp : Nat) (w : World) (R : Cs w g #[.int .i64 k, .bool x, .int .i64 a, .int .i64 n, .string s, .pointer none, .pointer none, .pointer none, .int .i64 0, .int .i64 0]) (hg : g < w.heap.size) (rk rn re : Int) (hR : un 6 k n = (rk, rn, re)) :
    Calls Tryd.prog 12 #[.string ⟨#[115, 113, 114, 116]⟩, .slice (some ⟨g, 0, none⟩) 1 cp] w fun E w' => GivesR w rk rn re E w' ∧ Up w w' := by
  have hg1 : g < w.heap.size + 1 := by omega
  have hg2 : g < w.heap.size + 1 + 1 := by omega
  have hgn : ¬ w.heap.size = g := by omega
  have hgn1 : ¬ w.heap.size + 1 = g := by omega
  have c0 := R 0 _ rfl
  have c1 := R 1 _ rfl
  have c2 := R 2 _ rfl
  have c3 := R 3 _ rfl
  have c4 := R 4 _ rfl
  have c5 := R 5 _ rfl
  have c6 := R 6 _ rfl
  have c7 := R 7 _ rfl
  have c8 := R 8 _ rfl
  have c9 := R 9 _ rfl
  clear R
  cases hN : numb k n
  · obtain ⟨rfl, rfl, rfl⟩ : 0 = rk ∧ 0 = rn ∧ 16 = re := by simpa [un, hN, tcheck] using hR
    have HN := Lib.hid hN
    clear hN hR
    go_enter Tryd.func12, Tryd.ntmps12
    go_wp2_with (first
      | (go_at_call 15; ((with_reducible refine (isNumber_calls k x a n s _).mono ?_); rw [HN.out]; rintro E w1 ⟨rfl, hu1⟩; have k_w1 := hu1.cells.1; have f_w1 := hu1.cells.2; have z_w1 := hu1.size; (try simp at z_w1); have l0_w1 : w.heap.size < w1.heap.size := (by omega))))
    go_ret2
    exact ⟨⟨_, rfl, Or.inr ⟨by decide, rfl⟩⟩, by (repeat' (first | (with_reducible exact Up.refl _) | (with_reducible assumption) | (with_reducible refine Up.alloc ?_ _) | (with_reducible refine Up.drew ?_) | (with_reducible refine Up.drewN ?_ _) | (with_reducible refine Up.setCell ?_ ?_ _) | (with_reducible refine Up.call ?_ (by with_reducible assumption)) | go_size))⟩
  · have HN := Lib.hid hN
    have HR := Lib.hid hR
    clear hN hR
    go_enter Tryd.func12, Tryd.ntmps12
    go_wp2_with (first
      | (go_at_call 15; ((with_reducible refine (isNumber_calls k x a n s _).mono ?_); rw [HN.out]; rintro E w1 ⟨rfl, hu1⟩; have k_w1 := hu1.cells.1; have f_w1 := hu1.cells.2; have z_w1 := hu1.size; (try simp at z_w1); have l0_w1 : w.heap.size < w1.heap.size := (by omega)))
      | (go_at_call 23; ((with_reducible refine (unary_6 k x a n s _ HN.out rk rn re HR.out).mono ?_); rintro E w2 ⟨⟨v, rfl, hv⟩, hu2⟩; have HV := Lib.hid hv; clear hv)))
    go_ret2
    exact ⟨⟨v, rfl, HV.out.of_up (by (repeat' (first | (with_reducible exact Up.refl _) | (with_reducible assumption) | (with_reducible refine Up.alloc ?_ _) | (with_reducible refine Up.drew ?_) | (with_reducible refine Up.drewN ?_ _) | (with_reducible refine Up.setCell ?_ ?_ _) | (with_reducible refine Up.call ?_ (by with_reducible assumption)) | go_size)))⟩, by (repeat' (first | (with_reducible exact Up.refl _) | (with_reducible assumption) | (with_reducible refine Up.alloc ?_ _) | (with_reducible refine Up.drew ?_) | (with_reducible refine Up.drewN ?_ _) | (with_reducible refine Up.setCell ?_ ?_ _) | (with_reducible refine Up.call ?_ (by with_reducible assumption)) | go_size))⟩

set_option maxRecDepth 100000 in
set_option maxHeartbeats 4000000 in
theorem arith_7 (k : Int) (x : Bool) (a n : Int) (s : ByteArray)  (g cp : Nat) (w : World) (R : Cs w g #[.int .i64 k, .bool x, .int .i64 a, .int .i64 n, .string s, .pointer none, .pointer none, .pointer none, .int .i64 0, .int .i64 0]) (hg : g < w.heap.size) (rk rn re : Int) (hR : un 7 k n = (rk, rn, re)) :
    Calls Tryd.prog 12 #[.string ⟨#[115, 105, 110]⟩, .slice (some ⟨g, 0, none⟩) 1 cp] w fun E w' => GivesR w rk rn re E w' ∧ Up w w' := by
  have hg1 : g < w.heap.size + 1 := by omega
  have hg2 : g < w.heap.size + 1 + 1 := by omega
  have hgn : ¬ w.heap.size = g := by omega
  have hgn1 : ¬ w.heap.size + 1 = g := by omega
  have c0 := R 0 _ rfl
  have c1 := R 1 _ rfl
  have c2 := R 2 _ rfl
  have c3 := R 3 _ rfl
  have c4 := R 4 _ rfl
  have c5 := R 5 _ rfl
  have c6 := R 6 _ rfl
  have c7 := R 7 _ rfl
  have c8 := R 8 _ rfl
  have c9 := R 9 _ rfl
  clear R
  cases hN : numb k n
  · obtain ⟨rfl, rfl, rfl⟩ : 0 = rk ∧ 0 = rn ∧ 16 = re := by simpa [un, hN, tcheck] using hR
    have HN := Lib.hid hN
    clear hN hR
    go_enter Tryd.func12, Tryd.ntmps12
    go_wp2_with (first
      | (go_at_call 15; ((with_reducible refine (isNumber_calls k x a n s _).mono ?_); rw [HN.out]; rintro E w1 ⟨rfl, hu1⟩; have k_w1 := hu1.cells.1; have f_w1 := hu1.cells.2; have z_w1 := hu1.size; (try simp at z_w1); have l0_w1 : w.heap.size < w1.heap.size := (by omega))))
    go_ret2
    exact ⟨⟨_, rfl, Or.inr ⟨by decide, rfl⟩⟩, by (repeat' (first | (with_reducible exact Up.refl _) | (with_reducible assumption) | (with_reducible refine Up.alloc ?_ _) | (with_reducible refine Up.drew ?_) | (with_reducible refine Up.drewN ?_ _) | (with_reducible refine Up.setCell ?_ ?_ _) | (with_reducible refine Up.call ?_ (by with_reducible assumption)) | go_size))⟩
  · have HN := Lib.hid hN
    have HR := Lib.hid hR
    clear hN hR
    go_enter Tryd.func12, Tryd.ntmps12
    go_wp2_with (first
      | (go_at_call 15; ((with_reducible refine (isNumber_calls k x a n s _).mono ?_); rw [HN.out]; rintro E w1 ⟨rfl, hu1⟩; have k_w1 := hu1.cells.1; have f_w1 := hu1.cells.2; have z_w1 := hu1.size; (try simp at z_w1); have l0_w1 : w.heap.size < w1.heap.size := (by omega)))
      | (go_at_call 23; ((with_reducible refine (unary_7 k x a n s _ HN.out rk rn re HR.out).mono ?_); rintro E w2 ⟨⟨v, rfl, hv⟩, hu2⟩; have HV := Lib.hid hv; clear hv)))
    go_ret2
    exact ⟨⟨v, rfl, HV.out.of_up (by (repeat' (first | (with_reducible exact Up.refl _) | (with_reducible assumption) | (with_reducible refine Up.alloc ?_ _) | (with_reducible refine Up.drew ?_) | (with_reducible refine Up.drewN ?_ _) | (with_reducible refine Up.setCell ?_ ?_ _) | (with_reducible refine Up.call ?_ (by with_reducible assumption)) | go_size)))⟩, by (repeat' (first | (with_reducible exact Up.refl _) | (with_reducible assumption) | (with_reducible refine Up.alloc ?_ _) | (with_reducible refine Up.drew ?_) | (with_reducible refine Up.drewN ?_ _) | (with_reducible refine Up.setCell ?_ ?_ _) | (with_reducible refine Up.call ?_ (by with_reducible assumption)) | go_size))⟩

set_option maxRecDepth 100000 in
set_option maxHeartbeats 4000000 in
theorem arith_8 (k : Int) (x : Bool) (a n : Int) (s : ByteArray)  (g cp : Nat) (w : World) (R : Cs w g #[.int .i64 k, .bool x, .int .i64 a, .int .i64 n, .string s, .pointer none, .pointer none, .pointer none, .int .i64 0, .int .i64 0]) (hg : g < w.heap.size) (rk rn re : Int) (hR : un 8 k n = (rk, rn, re)) :
    Calls Tryd.prog 12 #[.string ⟨#[99, 111, 115]⟩, .slice (some ⟨g, 0, none⟩) 1 cp] w fun E w' => GivesR w rk rn re E w' ∧ Up w w' := by
  have hg1 : g < w.heap.size + 1 := by omega
  have hg2 : g < w.heap.size + 1 + 1 := by omega
  have hgn : ¬ w.heap.size = g := by omega
  have hgn1 : ¬ w.heap.size + 1 = g := by omega
  have c0 := R 0 _ rfl
  have c1 := R 1 _ rfl
  have c2 := R 2 _ rfl
  have c3 := R 3 _ rfl
  have c4 := R 4 _ rfl
  have c5 := R 5 _ rfl
  have c6 := R 6 _ rfl
  have c7 := R 7 _ rfl
  have c8 := R 8 _ rfl
  have c9 := R 9 _ rfl
  clear R
  cases hN : numb k n
  · obtain ⟨rfl, rfl, rfl⟩ : 0 = rk ∧ 0 = rn ∧ 16 = re := by simpa [un, hN, tcheck] using hR
    have HN := Lib.hid hN
    clear hN hR
    go_enter Tryd.func12, Tryd.ntmps12
    go_wp2_with (first
      | (go_at_call 15; ((with_reducible refine (isNumber_calls k x a n s _).mono ?_); rw [HN.out]; rintro E w1 ⟨rfl, hu1⟩; have k_w1 := hu1.cells.1; have f_w1 := hu1.cells.2; have z_w1 := hu1.size; (try simp at z_w1); have l0_w1 : w.heap.size < w1.heap.size := (by omega))))
    go_ret2
    exact ⟨⟨_, rfl, Or.inr ⟨by decide, rfl⟩⟩, by (repeat' (first | (with_reducible exact Up.refl _) | (with_reducible assumption) | (with_reducible refine Up.alloc ?_ _) | (with_reducible refine Up.drew ?_) | (with_reducible refine Up.drewN ?_ _) | (with_reducible refine Up.setCell ?_ ?_ _) | (with_reducible refine Up.call ?_ (by with_reducible assumption)) | go_size))⟩
  · have HN := Lib.hid hN
    have HR := Lib.hid hR
    clear hN hR
    go_enter Tryd.func12, Tryd.ntmps12
    go_wp2_with (first
      | (go_at_call 15; ((with_reducible refine (isNumber_calls k x a n s _).mono ?_); rw [HN.out]; rintro E w1 ⟨rfl, hu1⟩; have k_w1 := hu1.cells.1; have f_w1 := hu1.cells.2; have z_w1 := hu1.size; (try simp at z_w1); have l0_w1 : w.heap.size < w1.heap.size := (by omega)))
      | (go_at_call 23; ((with_reducible refine (unary_8 k x a n s _ HN.out rk rn re HR.out).mono ?_); rintro E w2 ⟨⟨v, rfl, hv⟩, hu2⟩; have HV := Lib.hid hv; clear hv)))
    go_ret2
    exact ⟨⟨v, rfl, HV.out.of_up (by (repeat' (first | (with_reducible exact Up.refl _) | (with_reducible assumption) | (with_reducible refine Up.alloc ?_ _) | (with_reducible refine Up.drew ?_) | (with_reducible refine Up.drewN ?_ _) | (with_reducible refine Up.setCell ?_ ?_ _) | (with_reducible refine Up.call ?_ (by with_reducible assumption)) | go_size)))⟩, by (repeat' (first | (with_reducible exact Up.refl _) | (with_reducible assumption) | (with_reducible refine Up.alloc ?_ _) | (with_reducible refine Up.drew ?_) | (with_reducible refine Up.drewN ?_ _) | (with_reducible refine Up.setCell ?_ ?_ _) | (with_reducible refine Up.call ?_ (by with_reducible assumption)) | go_size))⟩

set_option maxRecDepth 100000 in
set_option maxHeartbeats 4000000 in
theorem arith_9 (k : Int) (x : Bool) (a n : Int) (s : ByteArray)  (g cp : Nat) (w : World) (R : Cs w g #[.int .i64 k, .bool x, .int .i64 a, .int .i64 n, .string s, .pointer none, .pointer none, .pointer none, .int .i64 0, .int .i64 0]) (hg : g < w.heap.size) (rk rn re : Int) (hR : un 9 k n = (rk, rn, re)) :
    Calls Tryd.prog 12 #[.string ⟨#[110, 111, 116]⟩, .slice (some ⟨g, 0, none⟩) 1 cp] w fun E w' => GivesR w rk rn re E w' ∧ Up w w' := by
  have hg1 : g < w.heap.size + 1 := by omega
  have hg2 : g < w.heap.size + 1 + 1 := by omega
  have hgn : ¬ w.heap.size = g := by omega
  have hgn1 : ¬ w.heap.size + 1 = g := by omega
  have c0 := R 0 _ rfl
  have c1 := R 1 _ rfl
  have c2 := R 2 _ rfl
  have c3 := R 3 _ rfl
  have c4 := R 4 _ rfl
  have c5 := R 5 _ rfl
  have c6 := R 6 _ rfl
  have c7 := R 7 _ rfl
  have c8 := R 8 _ rfl
  have c9 := R 9 _ rfl
  clear R
  cases hT : isT k n
  · cases hI : isI k n
    · obtain ⟨rfl, rfl, rfl⟩ : 0 = rk ∧ 0 = rn ∧ 16 = re := by simpa [un, hT, hI, tcheck] using hR
      have HT := Lib.hid hT
      have HI := Lib.hid hI
      clear hT hI hR
      go_enter Tryd.func12, Tryd.ntmps12
      go_wp2_with (first
        | (go_at_call 18; ((with_reducible refine (isTruth_r k x a n s _ _ HT.out).mono ?_); rintro E w1 ⟨rfl, hu1⟩; have k_w1 := hu1.cells.1; have f_w1 := hu1.cells.2; have z_w1 := hu1.size; (try simp at z_w1); have l0_w1 : w.heap.size < w1.heap.size := (by omega)))
        | (go_at_call 21; ((with_reducible refine (isInt_r k x a n s _ _ HI.out).mono ?_); rintro E w6 ⟨rfl, hu6⟩; have k_w6 := hu6.cells.1; have f_w6 := hu6.cells.2; have z_w6 := hu6.size; (try simp at z_w6); have l0_w6 : w.heap.size < w6.heap.size := (by omega))))
      go_ret2
      exact ⟨⟨_, rfl, Or.inr ⟨by decide, rfl⟩⟩, by (repeat' (first | (with_reducible exact Up.refl _) | (with_reducible assumption) | (with_reducible refine Up.alloc ?_ _) | (with_reducible refine Up.drew ?_) | (with_reducible refine Up.drewN ?_ _) | (with_reducible refine Up.setCell ?_ ?_ _) | (with_reducible refine Up.call ?_ (by with_reducible assumption)) | go_size))⟩
    · obtain ⟨rfl, rfl, rfl⟩ : 1 = rk ∧ -1 - n = rn ∧ 0 = re := by simpa [un, hT, hI] using hR
      have HT := Lib.hid hT
      have HI := Lib.hid hI
      obtain ⟨-, hn1, hn2⟩ := isI_fits hI
      clear hT hI hR
      go_enter Tryd.func12, Tryd.ntmps12
      go_wp2_with (first
        | (go_at_call 18; ((with_reducible refine (isTruth_r k x a n s _ _ HT.out).mono ?_); rintro E w1 ⟨rfl, hu1⟩; have k_w1 := hu1.cells.1; have f_w1 := hu1.cells.2; have z_w1 := hu1.size; (try simp at z_w1); have l0_w1 : w.heap.size < w1.heap.size := (by omega)))
        | (go_at_call 21; ((with_reducible refine (isInt_r k x a n s _ _ HI.out).mono ?_); rintro E w6 ⟨rfl, hu6⟩; have k_w6 := hu6.cells.1; have f_w6 := hu6.cells.2; have z_w6 := hu6.size; (try simp at z_w6); have l0_w6 : w.heap.size < w6.heap.size := (by omega)))
        | (go_at_call 22; ((with_reducible refine (whole_r _ _).mono ?_); rintro E w3 ⟨rfl, hu3⟩))
        | (go_at_call 19; ((with_reducible refine (one_r 1 (-1 - n) _).mono ?_); rintro E w2 ⟨⟨v, rfl, hv⟩, hu2⟩; have HV := Lib.hid hv; clear hv)))
      go_ret2
      exact ⟨⟨v, rfl, HV.out.of_up (by (repeat' (first | (with_reducible exact Up.refl _) | (with_reducible assumption) | (with_reducible refine Up.alloc ?_ _) | (with_reducible refine Up.drew ?_) | (with_reducible refine Up.drewN ?_ _) | (with_reducible refine Up.setCell ?_ ?_ _) | (with_reducible refine Up.call ?_ (by with_reducible assumption)) | go_size)))⟩, by (repeat' (first | (with_reducible exact Up.refl _) | (with_reducible assumption) | (with_reducible refine Up.alloc ?_ _) | (with_reducible refine Up.drew ?_) | (with_reducible refine Up.drewN ?_ _) | (with_reducible refine Up.setCell ?_ ?_ _) | (with_reducible refine Up.call ?_ (by with_reducible assumption)) | go_size))⟩
  · obtain ⟨rfl, rfl, rfl⟩ : 3 = rk ∧ truthN (n == 0) = rn ∧ 0 = re := by simpa [un, hT] using hR
    have HT := Lib.hid hT
    clear hT hR
    go_enter Tryd.func12, Tryd.ntmps12
    go_wp2_with (first
      | (go_at_call 18; ((with_reducible refine (isTruth_r k x a n s _ _ HT.out).mono ?_); rintro E w1 ⟨rfl, hu1⟩; have k_w1 := hu1.cells.1; have f_w1 := hu1.cells.2; have z_w1 := hu1.size; (try simp at z_w1); have l0_w1 : w.heap.size < w1.heap.size := (by omega)))
      | (go_at_call 20; ((with_reducible refine (truth_r _ _).mono ?_); rintro E w3 ⟨rfl, hu3⟩))
      | (go_at_call 19; ((with_reducible refine (one_r 3 (truthN (n == 0)) _).mono ?_); rintro E w2 ⟨⟨v, rfl, hv⟩, hu2⟩; have HV := Lib.hid hv; clear hv)))
    go_ret2
    exact ⟨⟨v, rfl, HV.out.of_up (by (repeat' (first | (with_reducible exact Up.refl _) | (with_reducible assumption) | (with_reducible refine Up.alloc ?_ _) | (with_reducible refine Up.drew ?_) | (with_reducible refine Up.drewN ?_ _) | (with_reducible refine Up.setCell ?_ ?_ _) | (with_reducible refine Up.call ?_ (by with_reducible assumption)) | go_size)))⟩, by (repeat' (first | (with_reducible exact Up.refl _) | (with_reducible assumption) | (with_reducible refine Up.alloc ?_ _) | (with_reducible refine Up.drew ?_) | (with_reducible refine Up.drewN ?_ _) | (with_reducible refine Up.setCell ?_ ?_ _) | (with_reducible refine Up.call ?_ (by with_reducible assumption)) | go_size))⟩

end Go.Proofs.YtakickodehebmaaDoor.Ar