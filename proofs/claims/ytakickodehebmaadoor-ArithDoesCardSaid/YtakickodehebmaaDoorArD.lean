/- Quotients, bits, shifts and orders: package arith. -/
import Derived.Test.YtakickodehebmaaDoorArA
namespace Go.Proofs.YtakickodehebmaaDoor.Ar
open Go.ChangeShapes Go.WideShapes Go.ChangeAt Go.RowKit
open Go.Proofs.YtakickodehebmaaDoor.FixM (fits within)
open Go.Proofs.YtakickodehebmaaDoor.ArM
set_option linter.unusedVariables false
set_option linter.unusedSimpArgs false

theorem wrapS {n : Int} (h0 : -9223372036854775808 ≤ n) (h1 : n ≤ 9223372036854775807) : IntKind.i64.wrap n = n := by
  rw [IntKind.wrap_i64]; omega
theorem quo_bound {a b : Int} (h1 : -2147483648 ≤ a) (h2 : a ≤ 2147483647) (h3 : -2147483648 ≤ b) (h4 : b ≤ 2147483647) (z : b ≠ 0) :
    -2147483648 ≤ a.tdiv b ∧ a.tdiv b ≤ 2147483648 ∧ -2147483648 ≤ a.tmod b ∧ a.tmod b ≤ 2147483648 := by
  have e1 := Int.natAbs_tdiv_le_natAbs a b
  have e2 : (a.tmod b).natAbs ≤ a.natAbs := by
    rw [Int.natAbs_tmod]
    exact Nat.mod_le _ _
  omega

set_option maxHeartbeats 1000000 in
theorem quotient_14 (a b : Int) (ha : fits a = true) (hb : fits b = true) (w : World) (rk rn re : Int) (hR : quot 14 a b = (rk, rn, re)) :
    Calls Tryd.prog 48 #[.string ⟨#[105, 100, 105, 118]⟩, .int .i64 a, .int .i64 b] w fun E w' => E = .returned (.tuple #[.agg #[.int .i64 rk, .bool false, .int .i64 0, .int .i64 rn, .string ⟨#[]⟩, .int .i64 0, .int .i64 0, .int .i64 0], .int .i64 re]) ∧ Up w w' := by
  obtain ⟨h1, h2⟩ := fitsB ha
  obtain ⟨h3, h4⟩ := fitsB hb
  have HR := Lib.hid hR
  clear ha hb hR
  by_cases z : b = 0
  · subst z
    obtain ⟨rfl, rfl, rfl⟩ : rk = 0 ∧ rn = 0 ∧ re = 18 := by have := HR.out; simp [quot] at this; omega
    go_enter Tryd.func48, Tryd.ntmps48
    go_wp2
    (try simp only [Exit.inBlock, Exit.then])
    refine bodyPost_ret (results_oe rfl _ _ w.heap.size _ false 0 _ ⟨#[]⟩ 0 0 0 (by apply cast; (case h => (repeat (first | (with_reducible assumption) | (with_reducible apply Row.at; (simp; done)) | (with_reducible apply Row.alloc) | (with_reducible apply Row.drew) | (with_reducible apply Row.drewN) | (with_reducible apply Row.set) | ((with_reducible apply Row.other); (case hp => first | (simp; done) | (simp; omega) | omega))))); (case e => rfl)) rfl) rfl ?_
    exact ⟨rfl, by (repeat' (first | (with_reducible exact Up.refl _) | (with_reducible assumption) | (with_reducible refine Up.alloc ?_ _) | (with_reducible refine Up.drew ?_) | (with_reducible refine Up.drewN ?_ _) | (with_reducible refine Up.setCell ?_ ?_ _) | (with_reducible refine Up.call ?_ (by with_reducible assumption)) | go_size))⟩
  · have dz : (b == 0) = false := by simpa using z
    obtain ⟨q1, q2, q3, q4⟩ : -2147483648 ≤ a.tdiv b ∧ a.tdiv b ≤ 2147483648 ∧ -2147483648 ≤ a.tmod b ∧ a.tmod b ≤ 2147483648 := quo_bound h1 h2 h3 h4 z
    have q5 : IntKind.i64.wrap (a.tdiv b) = a.tdiv b := wrapS (by omega) (by omega)
    have q6 : IntKind.i64.wrap (a.tmod b) = a.tmod b := wrapS (by omega) (by omega)
    obtain ⟨t, ht⟩ : ∃ t, fits (a.tdiv b) = t := ⟨_, rfl⟩
    have HT := Lib.hid ht
    have HR := Lib.hid (show (if t = true then ((1, a.tdiv b, 0) : R) else (0, 0, 18)) = (rk, rn, re) by rw [← HR.out, ← ht]; unfold quot; rw [if_neg z]; rfl)
    clear ht
    cases t
    · obtain ⟨rfl, rfl, rfl⟩ : rk = 0 ∧ rn = 0 ∧ re = 18 := by have := HR.out; simp at this; omega
      go_enter Tryd.func48, Tryd.ntmps48
      go_wp2_with (first
        | (go_at_call 61; ((with_reducible refine (small_calls _ _).mono ?_); rintro E w1 ⟨rfl, rfl⟩; rw [HT.out]))
        | (go_at_call 41; ((with_reducible refine (whole_calls _ _).mono ?_); rintro E w2 ⟨rfl, hu2⟩; have k_w2 := hu2.cells.1; have f_w2 := hu2.cells.2; have z_w2 := hu2.size; (try simp at z_w2); have l0_w2 : w.heap.size < w2.heap.size := (by omega); (try clear q0 y0 q1 y1 q2 y2 q3 y3 q4 y4 q5 y5 q6 y6 q7 y7); have RZ_w2 : Row w2 (w.heap.size) #[.int .i64 0, .bool false, .int .i64 0, .int .i64 0, .string ⟨#[]⟩, .int .i64 0, .int .i64 0, .int .i64 0] := Row.up (show Row _ (w.heap.size) #[.int .i64 0, .bool false, .int .i64 0, .int .i64 0, .string ⟨#[]⟩, .int .i64 0, .int .i64 0, .int .i64 0] by (repeat' (first | (with_reducible assumption) | (with_reducible refine Row.at _ _ ?_; (simp; done)) | (with_reducible refine Row.alloc ?_ _) | (with_reducible refine Row.drew ?_) | (with_reducible refine Row.drewN ?_ _) | (with_reducible refine Row.other ?_ (by first | (simp; done) | (simp; omega) | omega) _) | (with_reducible refine Row.up ?_ (by with_reducible assumption)) | (with_reducible refine Row.chg ?_ (by with_reducible assumption) (by first | (simp; done) | (simp; omega)))))) hu2; have q0 : w2.cell? ⟨w.heap.size, 0, none⟩ = some (.int .i64 0) := RZ_w2.cell 0 rfl; have y0 : w2.frozen? ⟨w.heap.size, 0, none⟩ = false := RZ_w2.free 0; have q1 : w2.cell? ⟨w.heap.size, 1, none⟩ = some (.bool false) := RZ_w2.cell 1 rfl; have y1 : w2.frozen? ⟨w.heap.size, 1, none⟩ = false := RZ_w2.free 1; have q2 : w2.cell? ⟨w.heap.size, 2, none⟩ = some (.int .i64 0) := RZ_w2.cell 2 rfl; have y2 : w2.frozen? ⟨w.heap.size, 2, none⟩ = false := RZ_w2.free 2; have q3 : w2.cell? ⟨w.heap.size, 3, none⟩ = some (.int .i64 0) := RZ_w2.cell 3 rfl; have y3 : w2.frozen? ⟨w.heap.size, 3, none⟩ = false := RZ_w2.free 3; have q4 : w2.cell? ⟨w.heap.size, 4, none⟩ = some (.string ⟨#[]⟩) := RZ_w2.cell 4 rfl; have y4 : w2.frozen? ⟨w.heap.size, 4, none⟩ = false := RZ_w2.free 4; have q5 : w2.cell? ⟨w.heap.size, 5, none⟩ = some (.int .i64 0) := RZ_w2.cell 5 rfl; have y5 : w2.frozen? ⟨w.heap.size, 5, none⟩ = false := RZ_w2.free 5; have q6 : w2.cell? ⟨w.heap.size, 6, none⟩ = some (.int .i64 0) := RZ_w2.cell 6 rfl; have y6 : w2.frozen? ⟨w.heap.size, 6, none⟩ = false := RZ_w2.free 6; have q7 : w2.cell? ⟨w.heap.size, 7, none⟩ = some (.int .i64 0) := RZ_w2.cell 7 rfl; have y7 : w2.frozen? ⟨w.heap.size, 7, none⟩ = false := RZ_w2.free 7)))
      (try simp only [Exit.inBlock, Exit.then])
      refine bodyPost_ret (results_oe rfl _ _ w.heap.size _ false 0 _ ⟨#[]⟩ 0 0 0 (by apply cast; (case h => (repeat (first | (with_reducible assumption) | (with_reducible apply Row.at; (simp; done)) | (with_reducible apply Row.alloc) | (with_reducible apply Row.drew) | (with_reducible apply Row.drewN) | (with_reducible apply Row.set) | ((with_reducible apply Row.other); (case hp => first | (simp; done) | (simp; omega) | omega))))); (case e => rfl)) rfl) rfl ?_
      exact ⟨rfl, by (repeat' (first | (with_reducible exact Up.refl _) | (with_reducible assumption) | (with_reducible refine Up.alloc ?_ _) | (with_reducible refine Up.drew ?_) | (with_reducible refine Up.drewN ?_ _) | (with_reducible refine Up.setCell ?_ ?_ _) | (with_reducible refine Up.call ?_ (by with_reducible assumption)) | go_size))⟩
    · obtain ⟨rfl, rfl, rfl⟩ : rk = 1 ∧ rn = a.tdiv b ∧ re = 0 := by have := HR.out; simp at this; omega
      go_enter Tryd.func48, Tryd.ntmps48
      go_wp2_with (first
        | (go_at_call 61; ((with_reducible refine (small_calls _ _).mono ?_); rintro E w1 ⟨rfl, rfl⟩; rw [HT.out]))
        | (go_at_call 41; ((with_reducible refine (whole_calls _ _).mono ?_); rintro E w2 ⟨rfl, hu2⟩; have k_w2 := hu2.cells.1; have f_w2 := hu2.cells.2; have z_w2 := hu2.size; (try simp at z_w2); have l0_w2 : w.heap.size < w2.heap.size := (by omega); (try clear q0 y0 q1 y1 q2 y2 q3 y3 q4 y4 q5 y5 q6 y6 q7 y7); have RZ_w2 : Row w2 (w.heap.size) #[.int .i64 0, .bool false, .int .i64 0, .int .i64 0, .string ⟨#[]⟩, .int .i64 0, .int .i64 0, .int .i64 0] := Row.up (show Row _ (w.heap.size) #[.int .i64 0, .bool false, .int .i64 0, .int .i64 0, .string ⟨#[]⟩, .int .i64 0, .int .i64 0, .int .i64 0] by (repeat' (first | (with_reducible assumption) | (with_reducible refine Row.at _ _ ?_; (simp; done)) | (with_reducible refine Row.alloc ?_ _) | (with_reducible refine Row.drew ?_) | (with_reducible refine Row.drewN ?_ _) | (with_reducible refine Row.other ?_ (by first | (simp; done) | (simp; omega) | omega) _) | (with_reducible refine Row.up ?_ (by with_reducible assumption)) | (with_reducible refine Row.chg ?_ (by with_reducible assumption) (by first | (simp; done) | (simp; omega)))))) hu2; have q0 : w2.cell? ⟨w.heap.size, 0, none⟩ = some (.int .i64 0) := RZ_w2.cell 0 rfl; have y0 : w2.frozen? ⟨w.heap.size, 0, none⟩ = false := RZ_w2.free 0; have q1 : w2.cell? ⟨w.heap.size, 1, none⟩ = some (.bool false) := RZ_w2.cell 1 rfl; have y1 : w2.frozen? ⟨w.heap.size, 1, none⟩ = false := RZ_w2.free 1; have q2 : w2.cell? ⟨w.heap.size, 2, none⟩ = some (.int .i64 0) := RZ_w2.cell 2 rfl; have y2 : w2.frozen? ⟨w.heap.size, 2, none⟩ = false := RZ_w2.free 2; have q3 : w2.cell? ⟨w.heap.size, 3, none⟩ = some (.int .i64 0) := RZ_w2.cell 3 rfl; have y3 : w2.frozen? ⟨w.heap.size, 3, none⟩ = false := RZ_w2.free 3; have q4 : w2.cell? ⟨w.heap.size, 4, none⟩ = some (.string ⟨#[]⟩) := RZ_w2.cell 4 rfl; have y4 : w2.frozen? ⟨w.heap.size, 4, none⟩ = false := RZ_w2.free 4; have q5 : w2.cell? ⟨w.heap.size, 5, none⟩ = some (.int .i64 0) := RZ_w2.cell 5 rfl; have y5 : w2.frozen? ⟨w.heap.size, 5, none⟩ = false := RZ_w2.free 5; have q6 : w2.cell? ⟨w.heap.size, 6, none⟩ = some (.int .i64 0) := RZ_w2.cell 6 rfl; have y6 : w2.frozen? ⟨w.heap.size, 6, none⟩ = false := RZ_w2.free 6; have q7 : w2.cell? ⟨w.heap.size, 7, none⟩ = some (.int .i64 0) := RZ_w2.cell 7 rfl; have y7 : w2.frozen? ⟨w.heap.size, 7, none⟩ = false := RZ_w2.free 7)))
      (try simp only [Exit.inBlock, Exit.then])
      refine bodyPost_ret (results_oe rfl _ _ w.heap.size _ false 0 _ ⟨#[]⟩ 0 0 0 (by apply cast; (case h => (repeat (first | (with_reducible assumption) | (with_reducible apply Row.at; (simp; done)) | (with_reducible apply Row.alloc) | (with_reducible apply Row.drew) | (with_reducible apply Row.drewN) | (with_reducible apply Row.set) | ((with_reducible apply Row.other); (case hp => first | (simp; done) | (simp; omega) | omega))))); (case e => rfl)) rfl) rfl ?_
      exact ⟨rfl, by (repeat' (first | (with_reducible exact Up.refl _) | (with_reducible assumption) | (with_reducible refine Up.alloc ?_ _) | (with_reducible refine Up.drew ?_) | (with_reducible refine Up.drewN ?_ _) | (with_reducible refine Up.setCell ?_ ?_ _) | (with_reducible refine Up.call ?_ (by with_reducible assumption)) | go_size))⟩

set_option maxHeartbeats 1000000 in
theorem quotient_15 (a b : Int) (ha : fits a = true) (hb : fits b = true) (w : World) (rk rn re : Int) (hR : quot 15 a b = (rk, rn, re)) :
    Calls Tryd.prog 48 #[.string ⟨#[109, 111, 100]⟩, .int .i64 a, .int .i64 b] w fun E w' => E = .returned (.tuple #[.agg #[.int .i64 rk, .bool false, .int .i64 0, .int .i64 rn, .string ⟨#[]⟩, .int .i64 0, .int .i64 0, .int .i64 0], .int .i64 re]) ∧ Up w w' := by
  obtain ⟨h1, h2⟩ := fitsB ha
  obtain ⟨h3, h4⟩ := fitsB hb
  have HR := Lib.hid hR
  clear ha hb hR
  by_cases z : b = 0
  · subst z
    obtain ⟨rfl, rfl, rfl⟩ : rk = 0 ∧ rn = 0 ∧ re = 18 := by have := HR.out; simp [quot] at this; omega
    go_enter Tryd.func48, Tryd.ntmps48
    go_wp2
    (try simp only [Exit.inBlock, Exit.then])
    refine bodyPost_ret (results_oe rfl _ _ w.heap.size _ false 0 _ ⟨#[]⟩ 0 0 0 (by apply cast; (case h => (repeat (first | (with_reducible assumption) | (with_reducible apply Row.at; (simp; done)) | (with_reducible apply Row.alloc) | (with_reducible apply Row.drew) | (with_reducible apply Row.drewN) | (with_reducible apply Row.set) | ((with_reducible apply Row.other); (case hp => first | (simp; done) | (simp; omega) | omega))))); (case e => rfl)) rfl) rfl ?_
    exact ⟨rfl, by (repeat' (first | (with_reducible exact Up.refl _) | (with_reducible assumption) | (with_reducible refine Up.alloc ?_ _) | (with_reducible refine Up.drew ?_) | (with_reducible refine Up.drewN ?_ _) | (with_reducible refine Up.setCell ?_ ?_ _) | (with_reducible refine Up.call ?_ (by with_reducible assumption)) | go_size))⟩
  · have dz : (b == 0) = false := by simpa using z
    obtain ⟨q1, q2, q3, q4⟩ : -2147483648 ≤ a.tdiv b ∧ a.tdiv b ≤ 2147483648 ∧ -2147483648 ≤ a.tmod b ∧ a.tmod b ≤ 2147483648 := quo_bound h1 h2 h3 h4 z
    have q5 : IntKind.i64.wrap (a.tdiv b) = a.tdiv b := wrapS (by omega) (by omega)
    have q6 : IntKind.i64.wrap (a.tmod b) = a.tmod b := wrapS (by omega) (by omega)
    obtain ⟨rfl, rfl, rfl⟩ : rk = 1 ∧ rn = a.tmod b ∧ re = 0 := by have := HR.out; simp [quot, z] at this; omega
    go_enter Tryd.func48, Tryd.ntmps48
    go_wp2_with (first
      | (go_at_call 41; ((with_reducible refine (whole_calls _ _).mono ?_); rintro E w2 ⟨rfl, hu2⟩; have k_w2 := hu2.cells.1; have f_w2 := hu2.cells.2; have z_w2 := hu2.size; (try simp at z_w2); have l0_w2 : w.heap.size < w2.heap.size := (by omega); (try clear q0 y0 q1 y1 q2 y2 q3 y3 q4 y4 q5 y5 q6 y6 q7 y7); have RZ_w2 : Row w2 (w.heap.size) #[.int .i64 0, .bool false, .int .i64 0, .int .i64 0, .string ⟨#[]⟩, .int .i64 0, .int .i64 0, .int .i64 0] := Row.up (show Row _ (w.heap.size) #[.int .i64 0, .bool false, .int .i64 0, .int .i64 0, .string ⟨#[]⟩, .int .i64 0, .int .i64 0, .int .i64 0] by (repeat' (first | (with_reducible assumption) | (with_reducible refine Row.at _ _ ?_; (simp; done)) | (with_reducible refine Row.alloc ?_ _) | (with_reducible refine Row.drew ?_) | (with_reducible refine Row.drewN ?_ _) | (with_reducible refine Row.other ?_ (by first | (simp; done) | (simp; omega) | omega) _) | (with_reducible refine Row.up ?_ (by with_reducible assumption)) | (with_reducible refine Row.chg ?_ (by with_reducible assumption) (by first | (simp; done) | (simp; omega)))))) hu2; have q0 : w2.cell? ⟨w.heap.size, 0, none⟩ = some (.int .i64 0) := RZ_w2.cell 0 rfl; have y0 : w2.frozen? ⟨w.heap.size, 0, none⟩ = false := RZ_w2.free 0; have q1 : w2.cell? ⟨w.heap.size, 1, none⟩ = some (.bool false) := RZ_w2.cell 1 rfl; have y1 : w2.frozen? ⟨w.heap.size, 1, none⟩ = false := RZ_w2.free 1; have q2 : w2.cell? ⟨w.heap.size, 2, none⟩ = some (.int .i64 0) := RZ_w2.cell 2 rfl; have y2 : w2.frozen? ⟨w.heap.size, 2, none⟩ = false := RZ_w2.free 2; have q3 : w2.cell? ⟨w.heap.size, 3, none⟩ = some (.int .i64 0) := RZ_w2.cell 3 rfl; have y3 : w2.frozen? ⟨w.heap.size, 3, none⟩ = false := RZ_w2.free 3; have q4 : w2.cell? ⟨w.heap.size, 4, none⟩ = some (.string ⟨#[]⟩) := RZ_w2.cell 4 rfl; have y4 : w2.frozen? ⟨w.heap.size, 4, none⟩ = false := RZ_w2.free 4; have q5 : w2.cell? ⟨w.heap.size, 5, none⟩ = some (.int .i64 0) := RZ_w2.cell 5 rfl; have y5 : w2.frozen? ⟨w.heap.size, 5, none⟩ = false := RZ_w2.free 5; have q6 : w2.cell? ⟨w.heap.size, 6, none⟩ = some (.int .i64 0) := RZ_w2.cell 6 rfl; have y6 : w2.frozen? ⟨w.heap.size, 6, none⟩ = false := RZ_w2.free 6; have q7 : w2.cell? ⟨w.heap.size, 7, none⟩ = some (.int .i64 0) := RZ_w2.cell 7 rfl; have y7 : w2.frozen? ⟨w.heap.size, 7, none⟩ = false := RZ_w2.free 7)))
    (try simp only [Exit.inBlock, Exit.then])
    refine bodyPost_ret (results_oe rfl _ _ w.heap.size _ false 0 _ ⟨#[]⟩ 0 0 0 (by apply cast; (case h => (repeat (first | (with_reducible assumption) | (with_reducible apply Row.at; (simp; done)) | (with_reducible apply Row.alloc) | (with_reducible apply Row.drew) | (with_reducible apply Row.drewN) | (with_reducible apply Row.set) | ((with_reducible apply Row.other); (case hp => first | (simp; done) | (simp; omega) | omega))))); (case e => rfl)) rfl) rfl ?_
    exact ⟨rfl, by (repeat' (first | (with_reducible exact Up.refl _) | (with_reducible assumption) | (with_reducible refine Up.alloc ?_ _) | (with_reducible refine Up.drew ?_) | (with_reducible refine Up.drewN ?_ _) | (with_reducible refine Up.setCell ?_ ?_ _) | (with_reducible refine Up.call ?_ (by with_reducible assumption)) | go_size))⟩

theorem bits_16 (a b : Int) (ha : fits a = true) (hb : fits b = true) (w : World) :
    Calls Tryd.prog 46 #[.string ⟨#[97, 110, 100]⟩, .int .i64 a, .int .i64 b] w fun e w' => e = .returned (.int .i64 (BitM.res 0 a b)) ∧ w = w' := by
  obtain ⟨h1, h2⟩ := fitsB ha
  obtain ⟨h3, h4⟩ := fitsB hb
  have H := Lib.hid (BitM.bits_and h1 h2 h3 h4)
  clear ha hb
  go_enter Tryd.func46, Tryd.ntmps46
  go_wp2
  go_ret
  exact ⟨by rw [← H.out]; rfl, rfl⟩

theorem bits_17 (a b : Int) (ha : fits a = true) (hb : fits b = true) (w : World) :
    Calls Tryd.prog 46 #[.string ⟨#[111, 114]⟩, .int .i64 a, .int .i64 b] w fun e w' => e = .returned (.int .i64 (BitM.res 1 a b)) ∧ w = w' := by
  obtain ⟨h1, h2⟩ := fitsB ha
  obtain ⟨h3, h4⟩ := fitsB hb
  have H := Lib.hid (BitM.bits_or h1 h2 h3 h4)
  clear ha hb
  go_enter Tryd.func46, Tryd.ntmps46
  go_wp2
  go_ret
  exact ⟨by rw [← H.out]; rfl, rfl⟩

theorem bits_18 (a b : Int) (ha : fits a = true) (hb : fits b = true) (w : World) :
    Calls Tryd.prog 46 #[.string ⟨#[120, 111, 114]⟩, .int .i64 a, .int .i64 b] w fun e w' => e = .returned (.int .i64 (BitM.res 2 a b)) ∧ w = w' := by
  obtain ⟨h1, h2⟩ := fitsB ha
  obtain ⟨h3, h4⟩ := fitsB hb
  have H := Lib.hid (BitM.bits_xor h1 h2 h3 h4)
  clear ha hb
  go_enter Tryd.func46, Tryd.ntmps46
  go_wp2
  go_ret
  exact ⟨by rw [← H.out]; rfl, rfl⟩

end Go.Proofs.YtakickodehebmaaDoor.Ar
