/- Shifts and orders: package arith. -/
import Derived.Test.YtakickodehebmaaDoorArA
import Derived.Deep.RegionHeld3
namespace Go.Proofs.YtakickodehebmaaDoor.Ar
open Go.ChangeShapes Go.WideShapes Go.ChangeAt Go.RowKit
open Go.Proofs.YtakickodehebmaaDoor.FixM (fits within)
open Go.Proofs.YtakickodehebmaaDoor.ArM
set_option linter.unusedVariables false
set_option linter.unusedSimpArgs false

theorem wrap_i32 {u : Int} (h0 : 0 ≤ u) (h1 : u < 4294967296) : RowKit.wrap64 (RowKit.wrap32 u) = i32 u := by
  simp only [RowKit.wrap64, RowKit.wrap32, i32]
  split <;> omega
theorem u32_div (n : Int) (k : Nat) : 0 ≤ u32 n / 2 ^ k ∧ u32 n / 2 ^ k < 4294967296 := by
  have h0 : 0 ≤ u32 n := Int.emod_nonneg _ (by decide)
  have h1 : u32 n < 4294967296 := Int.emod_lt_of_pos _ (by decide)
  have h2 : (0 : Int) < 2 ^ k := Int.pow_pos (by decide)
  refine ⟨Int.ediv_nonneg h0 (by omega), ?_⟩
  have := Int.ediv_le_self (2 ^ k) h0
  omega

theorem shift_calls (n b : Int) (hn : fits n = true) (hb : fits b = true) (w : World) :
    Calls Tryd.prog 47 #[.int .i64 n, .int .i64 b] w fun e w' => e = .returned (.int .i64 (shiftI n b)) ∧ w = w' := by
  obtain ⟨h1, h2⟩ := fitsB hn
  obtain ⟨h3, h4⟩ := fitsB hb
  clear hn hb
  by_cases c1 : 31 < b
  · have d1 : decide (31 < b) = true := decide_eq_true c1
    have H := Lib.hid (show shiftI n b = 0 by unfold shiftI; rw [if_pos (Or.inl c1)])
    go_enter Tryd.func47, Tryd.ntmps47
    go_wp2
    go_ret
    exact ⟨by rw [H.out]; rfl, rfl⟩
  · have d1 : decide (31 < b) = false := decide_eq_false c1
    by_cases c2 : b < -31
    · have d2 : decide (b < -31) = true := decide_eq_true c2
      have H := Lib.hid (show shiftI n b = 0 by unfold shiftI; rw [if_pos (Or.inr c2)])
      go_enter Tryd.func47, Tryd.ntmps47
      go_wp2
      go_ret
      exact ⟨by rw [H.out]; rfl, rfl⟩
    · have d2 : decide (b < -31) = false := decide_eq_false c2
      by_cases c3 : 0 ≤ b
      · have d3 : decide (0 ≤ b) = true := decide_eq_true c3
        have H2 := Lib.hid (wrap_i32 (u := u32 n * 2 ^ b.toNat % 4294967296) (by omega) (by omega))
        have H := Lib.hid (show shiftI n b = i32 (u32 n * 2 ^ b.toNat % 4294967296) by unfold shiftI; rw [if_neg (by omega), if_pos c3])
        go_enter Tryd.func47, Tryd.ntmps47
        go_wp2
        go_ret
        exact ⟨by rw [H.out, ← H2.out]; rfl, rfl⟩
      · have d3 : decide (0 ≤ b) = false := decide_eq_false c3
        have H2 := Lib.hid (wrap_i32 (u := u32 n / 2 ^ (-b).toNat) (u32_div n _).1 (u32_div n _).2)
        have H := Lib.hid (show shiftI n b = i32 (u32 n / 2 ^ (-b).toNat) by unfold shiftI; rw [if_neg (by omega), if_neg c3])
        go_enter Tryd.func47, Tryd.ntmps47
        go_wp2
        go_ret
        exact ⟨by rw [H.out, ← H2.out]; rfl, rfl⟩

theorem less_calls (k : Int) (x : Bool) (a n : Int) (s : ByteArray) (r f l : Int) (k' : Int) (x' : Bool) (a' n' : Int) (s' : ByteArray) (r' f' l' : Int) (w : World) (b : Bool) (hb : (numb k n && numb k' n') = b) :
    Calls Tryd.prog 13 #[.agg #[.int .i64 k, .bool x, .int .i64 a, .int .i64 n, .string s, .int .i64 r, .int .i64 f, .int .i64 l], .agg #[.int .i64 k', .bool x', .int .i64 a', .int .i64 n', .string s', .int .i64 r', .int .i64 f', .int .i64 l']] w fun e w' => e = .returned (.tuple #[.bool (b && decide (scaled k n < scaled k' n')), .bool b]) ∧ Up w w' := by
  obtain ⟨b1, h1⟩ : ∃ b1, numb k n = b1 := ⟨_, rfl⟩
  obtain ⟨b2, h2⟩ : ∃ b2, numb k' n' = b2 := ⟨_, rfl⟩
  have H1 := Lib.hid h1
  have H2 := Lib.hid h2
  have HB := Lib.hid (show (b1 && b2) = b by rw [← h1, ← h2]; exact hb)
  clear h1 h2 hb
  cases b1
  · obtain rfl : false = b := HB.out
    go_enter Tryd.func13, Tryd.ntmps13
    go_wp2_with (go_at_call 35; ((with_reducible refine (number_calls k x a n s r f l _).mono ?_); rintro E w1 ⟨rfl, hu1⟩; rw [H1.out]))
    go_ret2
    exact ⟨rfl, by (repeat' (first | (with_reducible exact Up.refl _) | (with_reducible assumption) | (with_reducible refine Up.alloc ?_ _) | (with_reducible refine Up.drew ?_) | (with_reducible refine Up.drewN ?_ _) | (with_reducible refine Up.setCell ?_ ?_ _) | (with_reducible refine Up.call ?_ (by with_reducible assumption)) | go_size))⟩
  · cases b2
    · obtain rfl : false = b := HB.out
      go_enter Tryd.func13, Tryd.ntmps13
      go_wp2_with (first
        | (go_at_call 35; ((with_reducible refine (number_calls k x a n s r f l _).mono ?_); rintro E w1 ⟨rfl, hu1⟩; rw [H1.out]; have k_w1 := hu1.cells.1; have f_w1 := hu1.cells.2; have z_w1 := hu1.size; (try simp at z_w1); have l0_w1 : w.heap.size < w1.heap.size := (by omega); have l1_w1 : w.heap.size + 1 < w1.heap.size := (by omega)))
        | (go_at_call 35; ((with_reducible refine (number_calls k' x' a' n' s' r' f' l' _).mono ?_); rintro E w2 ⟨rfl, hu2⟩; rw [H2.out])))
      go_ret2
      exact ⟨rfl, by (repeat' (first | (with_reducible exact Up.refl _) | (with_reducible assumption) | (with_reducible refine Up.alloc ?_ _) | (with_reducible refine Up.drew ?_) | (with_reducible refine Up.drewN ?_ _) | (with_reducible refine Up.setCell ?_ ?_ _) | (with_reducible refine Up.call ?_ (by with_reducible assumption)) | go_size))⟩
    · obtain rfl : true = b := HB.out
      go_enter Tryd.func13, Tryd.ntmps13
      go_wp2_with (first
        | (go_at_call 35; ((with_reducible refine (number_calls k x a n s r f l _).mono ?_); rintro E w1 ⟨rfl, hu1⟩; rw [H1.out]; have k_w1 := hu1.cells.1; have f_w1 := hu1.cells.2; have z_w1 := hu1.size; (try simp at z_w1); have l0_w1 : w.heap.size < w1.heap.size := (by omega); have l1_w1 : w.heap.size + 1 < w1.heap.size := (by omega); have RA1 : Row w1 (w.heap.size) #[.int .i64 k, .bool x, .int .i64 a, .int .i64 n, .string s, .int .i64 r, .int .i64 f, .int .i64 l] := Row.up (show Row _ (w.heap.size) #[.int .i64 k, .bool x, .int .i64 a, .int .i64 n, .string s, .int .i64 r, .int .i64 f, .int .i64 l] by (repeat' (first | (with_reducible assumption) | (with_reducible refine Row.at _ _ ?_; (simp; done)) | (with_reducible refine Row.alloc ?_ _) | (with_reducible refine Row.drew ?_) | (with_reducible refine Row.drewN ?_ _) | (with_reducible refine Row.other ?_ (by first | (simp; done) | (simp; omega) | omega) _) | (with_reducible refine Row.up ?_ (by with_reducible assumption)) | (with_reducible refine Row.chg ?_ (by with_reducible assumption) (by first | (simp; done) | (simp; omega)))))) hu1; have RB1 : Row w1 (w.heap.size + 1) #[.int .i64 k', .bool x', .int .i64 a', .int .i64 n', .string s', .int .i64 r', .int .i64 f', .int .i64 l'] := Row.up (show Row _ (w.heap.size + 1) #[.int .i64 k', .bool x', .int .i64 a', .int .i64 n', .string s', .int .i64 r', .int .i64 f', .int .i64 l'] by (repeat' (first | (with_reducible assumption) | (with_reducible refine Row.at _ _ ?_; (simp; done)) | (with_reducible refine Row.alloc ?_ _) | (with_reducible refine Row.drew ?_) | (with_reducible refine Row.drewN ?_ _) | (with_reducible refine Row.other ?_ (by first | (simp; done) | (simp; omega) | omega) _) | (with_reducible refine Row.up ?_ (by with_reducible assumption)) | (with_reducible refine Row.chg ?_ (by with_reducible assumption) (by first | (simp; done) | (simp; omega)))))) hu1))
        | (go_at_call 35; ((with_reducible refine (number_calls k' x' a' n' s' r' f' l' _).mono ?_); rintro E w2 ⟨rfl, hu2⟩; rw [H2.out]; have RA2 := RA1.up hu2; have RB2 := RB1.up hu2; have a0 := RA2.cell 0 rfl; have a1 := RA2.cell 1 rfl; have a2 := RA2.cell 2 rfl; have a3 := RA2.cell 3 rfl; have a4 := RA2.cell 4 rfl; have a5 := RA2.cell 5 rfl; have a6 := RA2.cell 6 rfl; have a7 := RA2.cell 7 rfl; have b0 := RB2.cell 0 rfl; have b1 := RB2.cell 1 rfl; have b2 := RB2.cell 2 rfl; have b3 := RB2.cell 3 rfl; have b4 := RB2.cell 4 rfl; have b5 := RB2.cell 5 rfl; have b6 := RB2.cell 6 rfl; have b7 := RB2.cell 7 rfl; have z2 := hu2.size; have lA := RA2.lt; have lB := RB2.lt)))
      go_region_held3 (fun w' => w'.cell? ⟨w.heap.size, 0, none⟩ = some (.int .i64 k) ∧ w'.cell? ⟨w.heap.size, 1, none⟩ = some (.bool x) ∧ w'.cell? ⟨w.heap.size, 2, none⟩ = some (.int .i64 a) ∧ w'.cell? ⟨w.heap.size, 3, none⟩ = some (.int .i64 n) ∧ w'.cell? ⟨w.heap.size, 4, none⟩ = some (.string s) ∧ w'.cell? ⟨w.heap.size, 5, none⟩ = some (.int .i64 r) ∧ w'.cell? ⟨w.heap.size, 6, none⟩ = some (.int .i64 f) ∧ w'.cell? ⟨w.heap.size, 7, none⟩ = some (.int .i64 l) ∧ w'.cell? ⟨w.heap.size + 1, 0, none⟩ = some (.int .i64 k') ∧ w'.cell? ⟨w.heap.size + 1, 1, none⟩ = some (.bool x') ∧ w'.cell? ⟨w.heap.size + 1, 2, none⟩ = some (.int .i64 a') ∧ w'.cell? ⟨w.heap.size + 1, 3, none⟩ = some (.int .i64 n') ∧ w'.cell? ⟨w.heap.size + 1, 4, none⟩ = some (.string s') ∧ w'.cell? ⟨w.heap.size + 1, 5, none⟩ = some (.int .i64 r') ∧ w'.cell? ⟨w.heap.size + 1, 6, none⟩ = some (.int .i64 f') ∧ w'.cell? ⟨w.heap.size + 1, 7, none⟩ = some (.int .i64 l')) (first | (with_reducible exact ⟨a0, a1, a2, a3, a4, a5, a6, a7, b0, b1, b2, b3, b4, b5, b6, b7⟩) | go_keep) (first
        | (go_at_call 36; ((with_reducible refine (scaled_calls k x a n s r f l _ H1.out).mono ?_); rintro E w3 ⟨rfl, hu3⟩; have RA3 : Row w3 (w.heap.size) #[.int .i64 k, .bool x, .int .i64 a, .int .i64 n, .string s, .int .i64 r, .int .i64 f, .int .i64 l] := Row.up (show Row _ (w.heap.size) #[.int .i64 k, .bool x, .int .i64 a, .int .i64 n, .string s, .int .i64 r, .int .i64 f, .int .i64 l] by (repeat' (first | (with_reducible assumption) | (with_reducible refine Row.at _ _ ?_; (simp; done)) | (with_reducible refine Row.alloc ?_ _) | (with_reducible refine Row.drew ?_) | (with_reducible refine Row.drewN ?_ _) | (with_reducible refine Row.other ?_ (by first | (simp; done) | (simp; omega) | omega) _) | (with_reducible refine Row.up ?_ (by with_reducible assumption)) | (with_reducible refine Row.chg ?_ (by with_reducible assumption) (by first | (simp; done) | (simp; omega)))))) hu3; have RB3 : Row w3 (w.heap.size + 1) #[.int .i64 k', .bool x', .int .i64 a', .int .i64 n', .string s', .int .i64 r', .int .i64 f', .int .i64 l'] := Row.up (show Row _ (w.heap.size + 1) #[.int .i64 k', .bool x', .int .i64 a', .int .i64 n', .string s', .int .i64 r', .int .i64 f', .int .i64 l'] by (repeat' (first | (with_reducible assumption) | (with_reducible refine Row.at _ _ ?_; (simp; done)) | (with_reducible refine Row.alloc ?_ _) | (with_reducible refine Row.drew ?_) | (with_reducible refine Row.drewN ?_ _) | (with_reducible refine Row.other ?_ (by first | (simp; done) | (simp; omega) | omega) _) | (with_reducible refine Row.up ?_ (by with_reducible assumption)) | (with_reducible refine Row.chg ?_ (by with_reducible assumption) (by first | (simp; done) | (simp; omega)))))) hu3; have a0 := RA3.cell 0 rfl; have a1 := RA3.cell 1 rfl; have a2 := RA3.cell 2 rfl; have a3 := RA3.cell 3 rfl; have a4 := RA3.cell 4 rfl; have a5 := RA3.cell 5 rfl; have a6 := RA3.cell 6 rfl; have a7 := RA3.cell 7 rfl; have b0 := RB3.cell 0 rfl; have b1 := RB3.cell 1 rfl; have b2 := RB3.cell 2 rfl; have b3 := RB3.cell 3 rfl; have b4 := RB3.cell 4 rfl; have b5 := RB3.cell 5 rfl; have b6 := RB3.cell 6 rfl; have b7 := RB3.cell 7 rfl; have lA := RA3.lt; have lB := RB3.lt))
        | (go_at_call 36; ((with_reducible refine (scaled_calls k' x' a' n' s' r' f' l' _ H2.out).mono ?_); rintro E w4 ⟨rfl, hu4⟩; have RA4 : Row w4 (w.heap.size) #[.int .i64 k, .bool x, .int .i64 a, .int .i64 n, .string s, .int .i64 r, .int .i64 f, .int .i64 l] := Row.up (show Row _ (w.heap.size) #[.int .i64 k, .bool x, .int .i64 a, .int .i64 n, .string s, .int .i64 r, .int .i64 f, .int .i64 l] by (repeat' (first | (with_reducible assumption) | (with_reducible refine Row.at _ _ ?_; (simp; done)) | (with_reducible refine Row.alloc ?_ _) | (with_reducible refine Row.drew ?_) | (with_reducible refine Row.drewN ?_ _) | (with_reducible refine Row.other ?_ (by first | (simp; done) | (simp; omega) | omega) _) | (with_reducible refine Row.up ?_ (by with_reducible assumption)) | (with_reducible refine Row.chg ?_ (by with_reducible assumption) (by first | (simp; done) | (simp; omega)))))) hu4; have RB4 : Row w4 (w.heap.size + 1) #[.int .i64 k', .bool x', .int .i64 a', .int .i64 n', .string s', .int .i64 r', .int .i64 f', .int .i64 l'] := Row.up (show Row _ (w.heap.size + 1) #[.int .i64 k', .bool x', .int .i64 a', .int .i64 n', .string s', .int .i64 r', .int .i64 f', .int .i64 l'] by (repeat' (first | (with_reducible assumption) | (with_reducible refine Row.at _ _ ?_; (simp; done)) | (with_reducible refine Row.alloc ?_ _) | (with_reducible refine Row.drew ?_) | (with_reducible refine Row.drewN ?_ _) | (with_reducible refine Row.other ?_ (by first | (simp; done) | (simp; omega) | omega) _) | (with_reducible refine Row.up ?_ (by with_reducible assumption)) | (with_reducible refine Row.chg ?_ (by with_reducible assumption) (by first | (simp; done) | (simp; omega)))))) hu4; have a0 := RA4.cell 0 rfl; have a1 := RA4.cell 1 rfl; have a2 := RA4.cell 2 rfl; have a3 := RA4.cell 3 rfl; have a4 := RA4.cell 4 rfl; have a5 := RA4.cell 5 rfl; have a6 := RA4.cell 6 rfl; have a7 := RA4.cell 7 rfl; have b0 := RB4.cell 0 rfl; have b1 := RB4.cell 1 rfl; have b2 := RB4.cell 2 rfl; have b3 := RB4.cell 3 rfl; have b4 := RB4.cell 4 rfl; have b5 := RB4.cell 5 rfl; have b6 := RB4.cell 6 rfl; have b7 := RB4.cell 7 rfl; have lA := RA4.lt; have lB := RB4.lt)))
      go_wp2
      go_ret2
      trace_state
      exact ⟨rfl, by (repeat' (first | (with_reducible exact Up.refl _) | (with_reducible assumption) | (with_reducible refine Up.alloc ?_ _) | (with_reducible refine Up.drew ?_) | (with_reducible refine Up.drewN ?_ _) | (with_reducible refine Up.setCell ?_ ?_ _) | (with_reducible refine Up.call ?_ (by with_reducible assumption)) | go_size))⟩

theorem equal_calls (k : Int) (x : Bool) (a n : Int) (s : ByteArray) (r f l : Int) (k' : Int) (x' : Bool) (a' n' : Int) (s' : ByteArray) (r' f' l' : Int) (w : World) (b : Bool) (hb : (numb k n && numb k' n') = b) :
    Calls Tryd.prog 14 #[.agg #[.int .i64 k, .bool x, .int .i64 a, .int .i64 n, .string s, .int .i64 r, .int .i64 f, .int .i64 l], .agg #[.int .i64 k', .bool x', .int .i64 a', .int .i64 n', .string s', .int .i64 r', .int .i64 f', .int .i64 l']] w fun e w' => e = .returned (.tuple #[.bool (b && decide (scaled k n = scaled k' n')), .bool b]) ∧ Up w w' := by
  obtain ⟨b1, h1⟩ : ∃ b1, numb k n = b1 := ⟨_, rfl⟩
  obtain ⟨b2, h2⟩ : ∃ b2, numb k' n' = b2 := ⟨_, rfl⟩
  have H1 := Lib.hid h1
  have H2 := Lib.hid h2
  have HB := Lib.hid (show (b1 && b2) = b by rw [← h1, ← h2]; exact hb)
  clear h1 h2 hb
  cases b1
  · obtain rfl : false = b := HB.out
    go_enter Tryd.func14, Tryd.ntmps14
    go_wp2_with (go_at_call 35; ((with_reducible refine (number_calls k x a n s r f l _).mono ?_); rintro E w1 ⟨rfl, hu1⟩; rw [H1.out]))
    go_ret2
    exact ⟨rfl, by (repeat' (first | (with_reducible exact Up.refl _) | (with_reducible assumption) | (with_reducible refine Up.alloc ?_ _) | (with_reducible refine Up.drew ?_) | (with_reducible refine Up.drewN ?_ _) | (with_reducible refine Up.setCell ?_ ?_ _) | (with_reducible refine Up.call ?_ (by with_reducible assumption)) | go_size))⟩
  · cases b2
    · obtain rfl : false = b := HB.out
      go_enter Tryd.func14, Tryd.ntmps14
      go_wp2_with (first
        | (go_at_call 35; ((with_reducible refine (number_calls k x a n s r f l _).mono ?_); rintro E w1 ⟨rfl, hu1⟩; rw [H1.out]; have k_w1 := hu1.cells.1; have f_w1 := hu1.cells.2; have z_w1 := hu1.size; (try simp at z_w1); have l0_w1 : w.heap.size < w1.heap.size := (by omega); have l1_w1 : w.heap.size + 1 < w1.heap.size := (by omega)))
        | (go_at_call 35; ((with_reducible refine (number_calls k' x' a' n' s' r' f' l' _).mono ?_); rintro E w2 ⟨rfl, hu2⟩; rw [H2.out])))
      go_ret2
      exact ⟨rfl, by (repeat' (first | (with_reducible exact Up.refl _) | (with_reducible assumption) | (with_reducible refine Up.alloc ?_ _) | (with_reducible refine Up.drew ?_) | (with_reducible refine Up.drewN ?_ _) | (with_reducible refine Up.setCell ?_ ?_ _) | (with_reducible refine Up.call ?_ (by with_reducible assumption)) | go_size))⟩
    · obtain rfl : true = b := HB.out
      go_enter Tryd.func14, Tryd.ntmps14
      go_wp2_with (first
        | (go_at_call 35; ((with_reducible refine (number_calls k x a n s r f l _).mono ?_); rintro E w1 ⟨rfl, hu1⟩; rw [H1.out]; have k_w1 := hu1.cells.1; have f_w1 := hu1.cells.2; have z_w1 := hu1.size; (try simp at z_w1); have l0_w1 : w.heap.size < w1.heap.size := (by omega); have l1_w1 : w.heap.size + 1 < w1.heap.size := (by omega); have RA1 : Row w1 (w.heap.size) #[.int .i64 k, .bool x, .int .i64 a, .int .i64 n, .string s, .int .i64 r, .int .i64 f, .int .i64 l] := Row.up (show Row _ (w.heap.size) #[.int .i64 k, .bool x, .int .i64 a, .int .i64 n, .string s, .int .i64 r, .int .i64 f, .int .i64 l] by (repeat' (first | (with_reducible assumption) | (with_reducible refine Row.at _ _ ?_; (simp; done)) | (with_reducible refine Row.alloc ?_ _) | (with_reducible refine Row.drew ?_) | (with_reducible refine Row.drewN ?_ _) | (with_reducible refine Row.other ?_ (by first | (simp; done) | (simp; omega) | omega) _) | (with_reducible refine Row.up ?_ (by with_reducible assumption)) | (with_reducible refine Row.chg ?_ (by with_reducible assumption) (by first | (simp; done) | (simp; omega)))))) hu1; have RB1 : Row w1 (w.heap.size + 1) #[.int .i64 k', .bool x', .int .i64 a', .int .i64 n', .string s', .int .i64 r', .int .i64 f', .int .i64 l'] := Row.up (show Row _ (w.heap.size + 1) #[.int .i64 k', .bool x', .int .i64 a', .int .i64 n', .string s', .int .i64 r', .int .i64 f', .int .i64 l'] by (repeat' (first | (with_reducible assumption) | (with_reducible refine Row.at _ _ ?_; (simp; done)) | (with_reducible refine Row.alloc ?_ _) | (with_reducible refine Row.drew ?_) | (with_reducible refine Row.drewN ?_ _) | (with_reducible refine Row.other ?_ (by first | (simp; done) | (simp; omega) | omega) _) | (with_reducible refine Row.up ?_ (by with_reducible assumption)) | (with_reducible refine Row.chg ?_ (by with_reducible assumption) (by first | (simp; done) | (simp; omega)))))) hu1))
        | (go_at_call 35; ((with_reducible refine (number_calls k' x' a' n' s' r' f' l' _).mono ?_); rintro E w2 ⟨rfl, hu2⟩; rw [H2.out]; have RA2 := RA1.up hu2; have RB2 := RB1.up hu2; have a0 := RA2.cell 0 rfl; have a1 := RA2.cell 1 rfl; have a2 := RA2.cell 2 rfl; have a3 := RA2.cell 3 rfl; have a4 := RA2.cell 4 rfl; have a5 := RA2.cell 5 rfl; have a6 := RA2.cell 6 rfl; have a7 := RA2.cell 7 rfl; have b0 := RB2.cell 0 rfl; have b1 := RB2.cell 1 rfl; have b2 := RB2.cell 2 rfl; have b3 := RB2.cell 3 rfl; have b4 := RB2.cell 4 rfl; have b5 := RB2.cell 5 rfl; have b6 := RB2.cell 6 rfl; have b7 := RB2.cell 7 rfl; have z2 := hu2.size; have lA := RA2.lt; have lB := RB2.lt)))
      go_region_held3 (fun w' => w'.cell? ⟨w.heap.size, 0, none⟩ = some (.int .i64 k) ∧ w'.cell? ⟨w.heap.size, 1, none⟩ = some (.bool x) ∧ w'.cell? ⟨w.heap.size, 2, none⟩ = some (.int .i64 a) ∧ w'.cell? ⟨w.heap.size, 3, none⟩ = some (.int .i64 n) ∧ w'.cell? ⟨w.heap.size, 4, none⟩ = some (.string s) ∧ w'.cell? ⟨w.heap.size, 5, none⟩ = some (.int .i64 r) ∧ w'.cell? ⟨w.heap.size, 6, none⟩ = some (.int .i64 f) ∧ w'.cell? ⟨w.heap.size, 7, none⟩ = some (.int .i64 l) ∧ w'.cell? ⟨w.heap.size + 1, 0, none⟩ = some (.int .i64 k') ∧ w'.cell? ⟨w.heap.size + 1, 1, none⟩ = some (.bool x') ∧ w'.cell? ⟨w.heap.size + 1, 2, none⟩ = some (.int .i64 a') ∧ w'.cell? ⟨w.heap.size + 1, 3, none⟩ = some (.int .i64 n') ∧ w'.cell? ⟨w.heap.size + 1, 4, none⟩ = some (.string s') ∧ w'.cell? ⟨w.heap.size + 1, 5, none⟩ = some (.int .i64 r') ∧ w'.cell? ⟨w.heap.size + 1, 6, none⟩ = some (.int .i64 f') ∧ w'.cell? ⟨w.heap.size + 1, 7, none⟩ = some (.int .i64 l')) (first | (with_reducible exact ⟨a0, a1, a2, a3, a4, a5, a6, a7, b0, b1, b2, b3, b4, b5, b6, b7⟩) | go_keep) (first
        | (go_at_call 36; ((with_reducible refine (scaled_calls k x a n s r f l _ H1.out).mono ?_); rintro E w3 ⟨rfl, hu3⟩; have RA3 : Row w3 (w.heap.size) #[.int .i64 k, .bool x, .int .i64 a, .int .i64 n, .string s, .int .i64 r, .int .i64 f, .int .i64 l] := Row.up (show Row _ (w.heap.size) #[.int .i64 k, .bool x, .int .i64 a, .int .i64 n, .string s, .int .i64 r, .int .i64 f, .int .i64 l] by (repeat' (first | (with_reducible assumption) | (with_reducible refine Row.at _ _ ?_; (simp; done)) | (with_reducible refine Row.alloc ?_ _) | (with_reducible refine Row.drew ?_) | (with_reducible refine Row.drewN ?_ _) | (with_reducible refine Row.other ?_ (by first | (simp; done) | (simp; omega) | omega) _) | (with_reducible refine Row.up ?_ (by with_reducible assumption)) | (with_reducible refine Row.chg ?_ (by with_reducible assumption) (by first | (simp; done) | (simp; omega)))))) hu3; have RB3 : Row w3 (w.heap.size + 1) #[.int .i64 k', .bool x', .int .i64 a', .int .i64 n', .string s', .int .i64 r', .int .i64 f', .int .i64 l'] := Row.up (show Row _ (w.heap.size + 1) #[.int .i64 k', .bool x', .int .i64 a', .int .i64 n', .string s', .int .i64 r', .int .i64 f', .int .i64 l'] by (repeat' (first | (with_reducible assumption) | (with_reducible refine Row.at _ _ ?_; (simp; done)) | (with_reducible refine Row.alloc ?_ _) | (with_reducible refine Row.drew ?_) | (with_reducible refine Row.drewN ?_ _) | (with_reducible refine Row.other ?_ (by first | (simp; done) | (simp; omega) | omega) _) | (with_reducible refine Row.up ?_ (by with_reducible assumption)) | (with_reducible refine Row.chg ?_ (by with_reducible assumption) (by first | (simp; done) | (simp; omega)))))) hu3; have a0 := RA3.cell 0 rfl; have a1 := RA3.cell 1 rfl; have a2 := RA3.cell 2 rfl; have a3 := RA3.cell 3 rfl; have a4 := RA3.cell 4 rfl; have a5 := RA3.cell 5 rfl; have a6 := RA3.cell 6 rfl; have a7 := RA3.cell 7 rfl; have b0 := RB3.cell 0 rfl; have b1 := RB3.cell 1 rfl; have b2 := RB3.cell 2 rfl; have b3 := RB3.cell 3 rfl; have b4 := RB3.cell 4 rfl; have b5 := RB3.cell 5 rfl; have b6 := RB3.cell 6 rfl; have b7 := RB3.cell 7 rfl; have lA := RA3.lt; have lB := RB3.lt))
        | (go_at_call 36; ((with_reducible refine (scaled_calls k' x' a' n' s' r' f' l' _ H2.out).mono ?_); rintro E w4 ⟨rfl, hu4⟩; have RA4 : Row w4 (w.heap.size) #[.int .i64 k, .bool x, .int .i64 a, .int .i64 n, .string s, .int .i64 r, .int .i64 f, .int .i64 l] := Row.up (show Row _ (w.heap.size) #[.int .i64 k, .bool x, .int .i64 a, .int .i64 n, .string s, .int .i64 r, .int .i64 f, .int .i64 l] by (repeat' (first | (with_reducible assumption) | (with_reducible refine Row.at _ _ ?_; (simp; done)) | (with_reducible refine Row.alloc ?_ _) | (with_reducible refine Row.drew ?_) | (with_reducible refine Row.drewN ?_ _) | (with_reducible refine Row.other ?_ (by first | (simp; done) | (simp; omega) | omega) _) | (with_reducible refine Row.up ?_ (by with_reducible assumption)) | (with_reducible refine Row.chg ?_ (by with_reducible assumption) (by first | (simp; done) | (simp; omega)))))) hu4; have RB4 : Row w4 (w.heap.size + 1) #[.int .i64 k', .bool x', .int .i64 a', .int .i64 n', .string s', .int .i64 r', .int .i64 f', .int .i64 l'] := Row.up (show Row _ (w.heap.size + 1) #[.int .i64 k', .bool x', .int .i64 a', .int .i64 n', .string s', .int .i64 r', .int .i64 f', .int .i64 l'] by (repeat' (first | (with_reducible assumption) | (with_reducible refine Row.at _ _ ?_; (simp; done)) | (with_reducible refine Row.alloc ?_ _) | (with_reducible refine Row.drew ?_) | (with_reducible refine Row.drewN ?_ _) | (with_reducible refine Row.other ?_ (by first | (simp; done) | (simp; omega) | omega) _) | (with_reducible refine Row.up ?_ (by with_reducible assumption)) | (with_reducible refine Row.chg ?_ (by with_reducible assumption) (by first | (simp; done) | (simp; omega)))))) hu4; have a0 := RA4.cell 0 rfl; have a1 := RA4.cell 1 rfl; have a2 := RA4.cell 2 rfl; have a3 := RA4.cell 3 rfl; have a4 := RA4.cell 4 rfl; have a5 := RA4.cell 5 rfl; have a6 := RA4.cell 6 rfl; have a7 := RA4.cell 7 rfl; have b0 := RB4.cell 0 rfl; have b1 := RB4.cell 1 rfl; have b2 := RB4.cell 2 rfl; have b3 := RB4.cell 3 rfl; have b4 := RB4.cell 4 rfl; have b5 := RB4.cell 5 rfl; have b6 := RB4.cell 6 rfl; have b7 := RB4.cell 7 rfl; have lA := RA4.lt; have lB := RB4.lt)))
      go_wp2
      go_ret2
      trace_state
      exact ⟨rfl, by (repeat' (first | (with_reducible exact Up.refl _) | (with_reducible assumption) | (with_reducible refine Up.alloc ?_ _) | (with_reducible refine Up.drew ?_) | (with_reducible refine Up.drewN ?_ _) | (with_reducible refine Up.setCell ?_ ?_ _) | (with_reducible refine Up.call ?_ (by with_reducible assumption)) | go_size))⟩

end Go.Proofs.YtakickodehebmaaDoor.Ar
