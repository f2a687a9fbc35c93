/- GstateNone: for every act the law returns true. Its card lists package-level variables as their texts lay them. No other condition. -/
import Derived.Test.YtoflafbhfoncmaaDoorGsD
import Derived.Test.YtoflafbhfoncmaaDoorActVal
import Derived.Test.YtoflafbhfoncmaaDoorTie
import Derived.Test.YtoflafbhfoncmaaDoorCards
import Derived.Test.YtoflafbhfoncmaaDoorArgs
import Derived.Lib.LaidTab
import Derived.Deep.DeepHandedRow
namespace Go.Proofs.YtoflafbhfoncmaaDoor.gstateNone
open Go.ChangeShapes Go.WideShapes Go.RowKit
open Go.Proofs.YtoflafbhfoncmaaDoor.Gs
open Go.Proofs.YtoflafbhfoncmaaDoor.MatM (M6)
set_option linter.unusedVariables false
set_option linter.unusedSimpArgs false

theorem isRow_up {k : IntKind} {w w1 : World} {a : Option Addr} {len cap : Nat} {zs : List Int} (h : IsRow k w a len cap zs) (hu : Up w w1) : IsRow k w1 a len cap zs := by
  by_cases h0 : 0 < cap
  · obtain ⟨b, o, e, -, -, -, hcell, -, hb⟩ := h.at h0
    rcases h with h | ⟨x, ex, hl, hm, hz, hc, hw⟩
    · exact .inl h
    · refine .inr ⟨x, ex, hl, hm, hz, fun i hi => ?_, hw⟩
      rw [e] at ex
      injection ex with ex
      subst ex
      rw [add_plain, hu.cells.1 b _ hb]
      exact hcell i (by omega)
  · rcases h with h | ⟨x, ex, hl, hm, hz, hc, hw⟩
    · exact .inl h
    · exact .inr ⟨x, ex, hl, hm, hz, fun i hi => by omega, hw⟩

set_option maxRecDepth 8000 in
theorem walk_far (D N : Int) (m : M6) (a : Option Addr) (len cap : Nat) (zs : List Int) (px py : Int) {w : World} (h : IsRow .i64 w a len cap zs) (h100 : ¬ len ≤ 100) :
    Calls Tryd.prog 5 #[.agg #[.int .i64 D, .int .i64 N, .int .i64 m.a, .int .i64 m.b, .int .i64 m.c, .int .i64 m.d, .int .i64 m.x, .int .i64 m.y, .slice a len cap, .int .i64 px, .int .i64 py]] w fun e w' => e = .returned (.bool true) ∧ Up w w' := by
  have t0 : decide ((100 : Int) < (len : Int)) = true := decide_eq_true (by omega)
  clear h
  go_enter Tryd.func5, Tryd.ntmps5
  go_wp2_with (go_at_call 7; ((with_reducible refine (answers_calls _).mono ?_); rintro E w1 ⟨rfl, hu1⟩))
  go_ret
  exact ⟨rfl, by (repeat' (first | (with_reducible exact Up.refl _) | (with_reducible assumption) | (with_reducible refine Up.alloc ?_ _) | (with_reducible refine Up.drew ?_) | (with_reducible refine Up.drewN ?_ _) | (with_reducible refine Up.setCell ?_ ?_ _) | (with_reducible refine Up.call ?_ (by with_reducible assumption)) | go_size))⟩

set_option maxRecDepth 8000 in
set_option maxHeartbeats 1000000 in
theorem walk_low (D N : Int) (m : M6) (a : Option Addr) (len cap : Nat) (zs : List Int) (px py : Int) {w : World} (h : IsRow .i64 w a len cap zs) (h100 : len ≤ 100) (hD : D < 1) :
    Calls Tryd.prog 5 #[.agg #[.int .i64 D, .int .i64 N, .int .i64 m.a, .int .i64 m.b, .int .i64 m.c, .int .i64 m.d, .int .i64 m.x, .int .i64 m.y, .slice a len cap, .int .i64 px, .int .i64 py]] w fun e w' => e = .returned (.bool true) ∧ Up w w' := by
  have t0 : decide ((100 : Int) < (len : Int)) = false := decide_eq_false (by omega)
  have k16 : D ≠ 16 := by omega
  have t16 : (D == 16) = false := by simp; omega
  have t1 : decide (D < 1) = true := decide_eq_true hD
  have HI := Lib.hid h
  clear h
  go_enter Tryd.func5, Tryd.ntmps5
  go_wp2_with (first
    | (go_at_call 8; ((with_reducible refine (call_all D k16 N m a len cap zs px py _ (isRow_up HI.out (by (repeat' (first | (with_reducible exact Up.refl _) | (with_reducible assumption) | (with_reducible refine Up.alloc ?_ _) | (with_reducible refine Up.drew ?_) | (with_reducible refine Up.drewN ?_ _) | (with_reducible refine Up.setCell ?_ ?_ _) | (with_reducible refine Up.call ?_ (by with_reducible assumption)) | go_size)))) h100).mono ?_); rintro E w1 ⟨⟨e, rfl, he⟩, hu1⟩; have z1 := hu1.size; (try simp at z1); have A1 := Row.up (show Row _ w.heap.size #[.int .i64 D, .int .i64 N, .int .i64 m.a, .int .i64 m.b, .int .i64 m.c, .int .i64 m.d, .int .i64 m.x, .int .i64 m.y, .slice a len cap, .int .i64 px, .int .i64 py] by (repeat' (first | (with_reducible assumption) | (with_reducible refine Row.at _ _ ?_; (simp; done)) | (with_reducible refine Row.alloc ?_ _) | (with_reducible refine Row.drew ?_) | (with_reducible refine Row.drewN ?_ _) | (with_reducible refine Row.other ?_ (by first | (simp; done) | (simp; omega) | omega) _) | (with_reducible refine Row.up ?_ (by with_reducible assumption)) | (with_reducible refine Row.chg ?_ (by with_reducible assumption) (by first | (simp; done) | (simp; omega)))))) hu1; have q0 : w1.cell? ⟨w.heap.size, 0, none⟩ = some (.int .i64 D) := A1.cell 0 rfl))
    | (go_at_call 7; ((with_reducible refine (answers_calls _).mono ?_); rintro E w2 ⟨rfl, hu2⟩))
    | (go_at_call 10; ((with_reducible refine (path_none _).mono ?_); rintro E w3 ⟨rfl, hu3⟩))
    | (go_at_call 12; ((with_reducible refine (depth_none _).mono ?_); rintro E w4 ⟨rfl, hu4⟩))
    | (go_at_call 17; ((with_reducible refine (copy_none _).mono ?_); rintro E w5 ⟨rfl, hu5⟩))
    | (go_at_call 9; ((with_reducible refine (now_none _).mono ?_); rintro E w6 ⟨rfl, hu6⟩))
    | (go_at_call 15; ((with_reducible refine (alike_start _).mono ?_); rintro E w8 ⟨rfl, hu8⟩))
    | (go_at_call 20; ((with_reducible refine (rstart_calls 1 _).mono ?_); rintro E w10 ⟨rfl, hu10⟩))
    | (go_at_call 19; ((with_reducible refine (same_start 1 _).mono ?_); rintro E w11 ⟨rfl, hu11⟩))
    | (go_at_call 18; ((with_reducible refine (start_calls _).mono ?_); rintro E w7 ⟨rfl, hu7⟩)))
  go_ret
  exact ⟨rfl, by (repeat' (first | (with_reducible exact Up.refl _) | (with_reducible assumption) | (with_reducible refine Up.alloc ?_ _) | (with_reducible refine Up.drew ?_) | (with_reducible refine Up.drewN ?_ _) | (with_reducible refine Up.setCell ?_ ?_ _) | (with_reducible refine Up.call ?_ (by with_reducible assumption)) | go_size))⟩

set_option maxRecDepth 8000 in
set_option maxHeartbeats 1000000 in
theorem walk_high (D N : Int) (m : M6) (a : Option Addr) (len cap : Nat) (zs : List Int) (px py : Int) {w : World} (h : IsRow .i64 w a len cap zs) (h100 : len ≤ 100) (hD : 14 < D) (k16 : D ≠ 16) :
    Calls Tryd.prog 5 #[.agg #[.int .i64 D, .int .i64 N, .int .i64 m.a, .int .i64 m.b, .int .i64 m.c, .int .i64 m.d, .int .i64 m.x, .int .i64 m.y, .slice a len cap, .int .i64 px, .int .i64 py]] w fun e w' => e = .returned (.bool true) ∧ Up w w' := by
  have t0 : decide ((100 : Int) < (len : Int)) = false := decide_eq_false (by omega)
  have t16 : (D == 16) = false := by simp; omega
  have t1 : decide (D < 1) = false := decide_eq_false (by omega)
  have t2 : decide (14 < D) = true := decide_eq_true hD
  have HI := Lib.hid h
  clear h
  go_enter Tryd.func5, Tryd.ntmps5
  go_wp2_with (first
    | (go_at_call 8; ((with_reducible refine (call_all D k16 N m a len cap zs px py _ (isRow_up HI.out (by (repeat' (first | (with_reducible exact Up.refl _) | (with_reducible assumption) | (with_reducible refine Up.alloc ?_ _) | (with_reducible refine Up.drew ?_) | (with_reducible refine Up.drewN ?_ _) | (with_reducible refine Up.setCell ?_ ?_ _) | (with_reducible refine Up.call ?_ (by with_reducible assumption)) | go_size)))) h100).mono ?_); rintro E w1 ⟨⟨e, rfl, he⟩, hu1⟩; have z1 := hu1.size; (try simp at z1); have A1 := Row.up (show Row _ w.heap.size #[.int .i64 D, .int .i64 N, .int .i64 m.a, .int .i64 m.b, .int .i64 m.c, .int .i64 m.d, .int .i64 m.x, .int .i64 m.y, .slice a len cap, .int .i64 px, .int .i64 py] by (repeat' (first | (with_reducible assumption) | (with_reducible refine Row.at _ _ ?_; (simp; done)) | (with_reducible refine Row.alloc ?_ _) | (with_reducible refine Row.drew ?_) | (with_reducible refine Row.drewN ?_ _) | (with_reducible refine Row.other ?_ (by first | (simp; done) | (simp; omega) | omega) _) | (with_reducible refine Row.up ?_ (by with_reducible assumption)) | (with_reducible refine Row.chg ?_ (by with_reducible assumption) (by first | (simp; done) | (simp; omega)))))) hu1; have q0 : w1.cell? ⟨w.heap.size, 0, none⟩ = some (.int .i64 D) := A1.cell 0 rfl))
    | (go_at_call 7; ((with_reducible refine (answers_calls _).mono ?_); rintro E w2 ⟨rfl, hu2⟩))
    | (go_at_call 10; ((with_reducible refine (path_none _).mono ?_); rintro E w3 ⟨rfl, hu3⟩))
    | (go_at_call 12; ((with_reducible refine (depth_none _).mono ?_); rintro E w4 ⟨rfl, hu4⟩))
    | (go_at_call 17; ((with_reducible refine (copy_none _).mono ?_); rintro E w5 ⟨rfl, hu5⟩))
    | (go_at_call 9; ((with_reducible refine (now_none _).mono ?_); rintro E w6 ⟨rfl, hu6⟩))
    | (go_at_call 15; ((with_reducible refine (alike_start _).mono ?_); rintro E w8 ⟨rfl, hu8⟩))
    | (go_at_call 20; ((with_reducible refine (rstart_calls 1 _).mono ?_); rintro E w10 ⟨rfl, hu10⟩))
    | (go_at_call 19; ((with_reducible refine (same_start 1 _).mono ?_); rintro E w11 ⟨rfl, hu11⟩))
    | (go_at_call 18; ((with_reducible refine (start_calls _).mono ?_); rintro E w7 ⟨rfl, hu7⟩)))
  go_ret
  exact ⟨rfl, by (repeat' (first | (with_reducible exact Up.refl _) | (with_reducible assumption) | (with_reducible refine Up.alloc ?_ _) | (with_reducible refine Up.drew ?_) | (with_reducible refine Up.drewN ?_ _) | (with_reducible refine Up.setCell ?_ ?_ _) | (with_reducible refine Up.call ?_ (by with_reducible assumption)) | go_size))⟩

set_option maxRecDepth 8000 in
set_option maxHeartbeats 1000000 in
theorem walk_mid (D N : Int) (m : M6) (a : Option Addr) (len cap : Nat) (zs : List Int) (px py : Int) {w : World} (h : IsRow .i64 w a len cap zs) (h100 : len ≤ 100) (hD : 2 ≤ D) (hE : D ≤ 4) :
    Calls Tryd.prog 5 #[.agg #[.int .i64 D, .int .i64 N, .int .i64 m.a, .int .i64 m.b, .int .i64 m.c, .int .i64 m.d, .int .i64 m.x, .int .i64 m.y, .slice a len cap, .int .i64 px, .int .i64 py]] w fun e w' => e = .returned (.bool true) ∧ Up w w' := by
  have t0 : decide ((100 : Int) < (len : Int)) = false := decide_eq_false (by omega)
  have k16 : D ≠ 16 := by omega
  have t16 : (D == 16) = false := by simp; omega
  have t1 : decide (D < 1) = false := decide_eq_false (by omega)
  have t2 : decide (14 < D) = false := decide_eq_false (by omega)
  have t3 : decide (2 ≤ D) = true := decide_eq_true hD
  have t4 : decide (D ≤ 4) = true := decide_eq_true hE
  have HI := Lib.hid h
  clear h
  go_enter Tryd.func5, Tryd.ntmps5
  go_wp2_with (first
    | (go_at_call 8; ((with_reducible refine (call_all D k16 N m a len cap zs px py _ (isRow_up HI.out (by (repeat' (first | (with_reducible exact Up.refl _) | (with_reducible assumption) | (with_reducible refine Up.alloc ?_ _) | (with_reducible refine Up.drew ?_) | (with_reducible refine Up.drewN ?_ _) | (with_reducible refine Up.setCell ?_ ?_ _) | (with_reducible refine Up.call ?_ (by with_reducible assumption)) | go_size)))) h100).mono ?_); rintro E w1 ⟨⟨e, rfl, he⟩, hu1⟩; have z1 := hu1.size; (try simp at z1); have A1 := Row.up (show Row _ w.heap.size #[.int .i64 D, .int .i64 N, .int .i64 m.a, .int .i64 m.b, .int .i64 m.c, .int .i64 m.d, .int .i64 m.x, .int .i64 m.y, .slice a len cap, .int .i64 px, .int .i64 py] by (repeat' (first | (with_reducible assumption) | (with_reducible refine Row.at _ _ ?_; (simp; done)) | (with_reducible refine Row.alloc ?_ _) | (with_reducible refine Row.drew ?_) | (with_reducible refine Row.drewN ?_ _) | (with_reducible refine Row.other ?_ (by first | (simp; done) | (simp; omega) | omega) _) | (with_reducible refine Row.up ?_ (by with_reducible assumption)) | (with_reducible refine Row.chg ?_ (by with_reducible assumption) (by first | (simp; done) | (simp; omega)))))) hu1; have q0 : w1.cell? ⟨w.heap.size, 0, none⟩ = some (.int .i64 D) := A1.cell 0 rfl))
    | (go_at_call 7; ((with_reducible refine (answers_calls _).mono ?_); rintro E w2 ⟨rfl, hu2⟩))
    | (go_at_call 10; ((with_reducible refine (path_none _).mono ?_); rintro E w3 ⟨rfl, hu3⟩))
    | (go_at_call 12; ((with_reducible refine (depth_none _).mono ?_); rintro E w4 ⟨rfl, hu4⟩))
    | (go_at_call 17; ((with_reducible refine (copy_none _).mono ?_); rintro E w5 ⟨rfl, hu5⟩))
    | (go_at_call 9; ((with_reducible refine (now_none _).mono ?_); rintro E w6 ⟨rfl, hu6⟩))
    | (go_at_call 15; ((with_reducible refine (alike_start _).mono ?_); rintro E w8 ⟨rfl, hu8⟩))
    | (go_at_call 20; ((with_reducible refine (rstart_calls 1 _).mono ?_); rintro E w10 ⟨rfl, hu10⟩))
    | (go_at_call 19; ((with_reducible refine (same_start 1 _).mono ?_); rintro E w11 ⟨rfl, hu11⟩))
    | (go_at_call 18; ((with_reducible refine (start_calls _).mono ?_); rintro E w7 ⟨rfl, hu7⟩)))
  go_ret
  exact ⟨rfl, by (repeat' (first | (with_reducible exact Up.refl _) | (with_reducible assumption) | (with_reducible refine Up.alloc ?_ _) | (with_reducible refine Up.drew ?_) | (with_reducible refine Up.drewN ?_ _) | (with_reducible refine Up.setCell ?_ ?_ _) | (with_reducible refine Up.call ?_ (by with_reducible assumption)) | go_size))⟩

set_option maxRecDepth 8000 in
set_option maxHeartbeats 1000000 in
theorem walk_one (D N : Int) (m : M6) (a : Option Addr) (len cap : Nat) (zs : List Int) (px py : Int) {w : World} (h : IsRow .i64 w a len cap zs) (h100 : len ≤ 100) (hD : 0 < D) (hE : D < 2) :
    Calls Tryd.prog 5 #[.agg #[.int .i64 D, .int .i64 N, .int .i64 m.a, .int .i64 m.b, .int .i64 m.c, .int .i64 m.d, .int .i64 m.x, .int .i64 m.y, .slice a len cap, .int .i64 px, .int .i64 py]] w fun e w' => e = .returned (.bool true) ∧ Up w w' := by
  have t0 : decide ((100 : Int) < (len : Int)) = false := decide_eq_false (by omega)
  have k16 : D ≠ 16 := by omega
  have t16 : (D == 16) = false := by simp; omega
  have t1 : decide (D < 1) = false := decide_eq_false (by omega)
  have t2 : decide (14 < D) = false := decide_eq_false (by omega)
  have t3 : decide (2 ≤ D) = false := decide_eq_false (by omega)
  have HS : Hid (silentB D = false) := Lib.hid (by unfold silentB; simp only [Bool.or_eq_false_iff, Bool.and_eq_false_iff, decide_eq_false_iff_not]; omega)
  have HI := Lib.hid h
  clear h
  go_enter Tryd.func5, Tryd.ntmps5
  go_wp2_with (first
    | (go_at_call 8; ((with_reducible refine (call_all D k16 N m a len cap zs px py _ (isRow_up HI.out (by (repeat' (first | (with_reducible exact Up.refl _) | (with_reducible assumption) | (with_reducible refine Up.alloc ?_ _) | (with_reducible refine Up.drew ?_) | (with_reducible refine Up.drewN ?_ _) | (with_reducible refine Up.setCell ?_ ?_ _) | (with_reducible refine Up.call ?_ (by with_reducible assumption)) | go_size)))) h100).mono ?_); rintro E w1 ⟨⟨e, rfl, he⟩, hu1⟩; have he2 := he HS.out; subst he2; have z1 := hu1.size; (try simp at z1); have A1 := Row.up (show Row _ w.heap.size #[.int .i64 D, .int .i64 N, .int .i64 m.a, .int .i64 m.b, .int .i64 m.c, .int .i64 m.d, .int .i64 m.x, .int .i64 m.y, .slice a len cap, .int .i64 px, .int .i64 py] by (repeat' (first | (with_reducible assumption) | (with_reducible refine Row.at _ _ ?_; (simp; done)) | (with_reducible refine Row.alloc ?_ _) | (with_reducible refine Row.drew ?_) | (with_reducible refine Row.drewN ?_ _) | (with_reducible refine Row.other ?_ (by first | (simp; done) | (simp; omega) | omega) _) | (with_reducible refine Row.up ?_ (by with_reducible assumption)) | (with_reducible refine Row.chg ?_ (by with_reducible assumption) (by first | (simp; done) | (simp; omega)))))) hu1; have q0 : w1.cell? ⟨w.heap.size, 0, none⟩ = some (.int .i64 D) := A1.cell 0 rfl))
    | (go_at_call 7; ((with_reducible refine (answers_calls _).mono ?_); rintro E w2 ⟨rfl, hu2⟩))
    | (go_at_call 10; ((with_reducible refine (path_none _).mono ?_); rintro E w3 ⟨rfl, hu3⟩))
    | (go_at_call 12; ((with_reducible refine (depth_none _).mono ?_); rintro E w4 ⟨rfl, hu4⟩))
    | (go_at_call 17; ((with_reducible refine (copy_none _).mono ?_); rintro E w5 ⟨rfl, hu5⟩))
    | (go_at_call 9; ((with_reducible refine (now_none _).mono ?_); rintro E w6 ⟨rfl, hu6⟩))
    | (go_at_call 15; ((with_reducible refine (alike_start _).mono ?_); rintro E w8 ⟨rfl, hu8⟩))
    | (go_at_call 20; ((with_reducible refine (rstart_calls 1 _).mono ?_); rintro E w10 ⟨rfl, hu10⟩))
    | (go_at_call 19; ((with_reducible refine (same_start 1 _).mono ?_); rintro E w11 ⟨rfl, hu11⟩))
    | (go_at_call 18; ((with_reducible refine (start_calls _).mono ?_); rintro E w7 ⟨rfl, hu7⟩)))
  go_ret
  exact ⟨rfl, by (repeat' (first | (with_reducible exact Up.refl _) | (with_reducible assumption) | (with_reducible refine Up.alloc ?_ _) | (with_reducible refine Up.drew ?_) | (with_reducible refine Up.drewN ?_ _) | (with_reducible refine Up.setCell ?_ ?_ _) | (with_reducible refine Up.call ?_ (by with_reducible assumption)) | go_size))⟩

set_option maxRecDepth 8000 in
set_option maxHeartbeats 1000000 in
theorem walk_loud (D N : Int) (m : M6) (a : Option Addr) (len cap : Nat) (zs : List Int) (px py : Int) {w : World} (h : IsRow .i64 w a len cap zs) (h100 : len ≤ 100) (hD : 4 < D) (hE : ¬ 14 < D) :
    Calls Tryd.prog 5 #[.agg #[.int .i64 D, .int .i64 N, .int .i64 m.a, .int .i64 m.b, .int .i64 m.c, .int .i64 m.d, .int .i64 m.x, .int .i64 m.y, .slice a len cap, .int .i64 px, .int .i64 py]] w fun e w' => e = .returned (.bool true) ∧ Up w w' := by
  have t0 : decide ((100 : Int) < (len : Int)) = false := decide_eq_false (by omega)
  have k16 : D ≠ 16 := by omega
  have t16 : (D == 16) = false := by simp; omega
  have t1 : decide (D < 1) = false := decide_eq_false (by omega)
  have t2 : decide (14 < D) = false := decide_eq_false (by omega)
  have t3 : decide (2 ≤ D) = true := decide_eq_true (by omega)
  have t4 : decide (D ≤ 4) = false := decide_eq_false (by omega)
  have HS : Hid (silentB D = false) := Lib.hid (by unfold silentB; simp only [Bool.or_eq_false_iff, Bool.and_eq_false_iff, decide_eq_false_iff_not]; omega)
  have HI := Lib.hid h
  clear h
  go_enter Tryd.func5, Tryd.ntmps5
  go_wp2_with (first
    | (go_at_call 8; ((with_reducible refine (call_all D k16 N m a len cap zs px py _ (isRow_up HI.out (by (repeat' (first | (with_reducible exact Up.refl _) | (with_reducible assumption) | (with_reducible refine Up.alloc ?_ _) | (with_reducible refine Up.drew ?_) | (with_reducible refine Up.drewN ?_ _) | (with_reducible refine Up.setCell ?_ ?_ _) | (with_reducible refine Up.call ?_ (by with_reducible assumption)) | go_size)))) h100).mono ?_); rintro E w1 ⟨⟨e, rfl, he⟩, hu1⟩; have he2 := he HS.out; subst he2; have z1 := hu1.size; (try simp at z1); have A1 := Row.up (show Row _ w.heap.size #[.int .i64 D, .int .i64 N, .int .i64 m.a, .int .i64 m.b, .int .i64 m.c, .int .i64 m.d, .int .i64 m.x, .int .i64 m.y, .slice a len cap, .int .i64 px, .int .i64 py] by (repeat' (first | (with_reducible assumption) | (with_reducible refine Row.at _ _ ?_; (simp; done)) | (with_reducible refine Row.alloc ?_ _) | (with_reducible refine Row.drew ?_) | (with_reducible refine Row.drewN ?_ _) | (with_reducible refine Row.other ?_ (by first | (simp; done) | (simp; omega) | omega) _) | (with_reducible refine Row.up ?_ (by with_reducible assumption)) | (with_reducible refine Row.chg ?_ (by with_reducible assumption) (by first | (simp; done) | (simp; omega)))))) hu1; have q0 : w1.cell? ⟨w.heap.size, 0, none⟩ = some (.int .i64 D) := A1.cell 0 rfl))
    | (go_at_call 7; ((with_reducible refine (answers_calls _).mono ?_); rintro E w2 ⟨rfl, hu2⟩))
    | (go_at_call 10; ((with_reducible refine (path_none _).mono ?_); rintro E w3 ⟨rfl, hu3⟩))
    | (go_at_call 12; ((with_reducible refine (depth_none _).mono ?_); rintro E w4 ⟨rfl, hu4⟩))
    | (go_at_call 17; ((with_reducible refine (copy_none _).mono ?_); rintro E w5 ⟨rfl, hu5⟩))
    | (go_at_call 9; ((with_reducible refine (now_none _).mono ?_); rintro E w6 ⟨rfl, hu6⟩))
    | (go_at_call 15; ((with_reducible refine (alike_start _).mono ?_); rintro E w8 ⟨rfl, hu8⟩))
    | (go_at_call 20; ((with_reducible refine (rstart_calls 1 _).mono ?_); rintro E w10 ⟨rfl, hu10⟩))
    | (go_at_call 19; ((with_reducible refine (same_start 1 _).mono ?_); rintro E w11 ⟨rfl, hu11⟩))
    | (go_at_call 18; ((with_reducible refine (start_calls _).mono ?_); rintro E w7 ⟨rfl, hu7⟩)))
  go_ret
  exact ⟨rfl, by (repeat' (first | (with_reducible exact Up.refl _) | (with_reducible assumption) | (with_reducible refine Up.alloc ?_ _) | (with_reducible refine Up.drew ?_) | (with_reducible refine Up.drewN ?_ _) | (with_reducible refine Up.setCell ?_ ?_ _) | (with_reducible refine Up.call ?_ (by with_reducible assumption)) | go_size))⟩

set_option maxRecDepth 8000 in
set_option maxHeartbeats 1000000 in
theorem walk_path (D N : Int) (m : M6) (a : Option Addr) (len cap : Nat) (zs : List Int) (px py : Int) {w : World} (h : IsRow .i64 w a len cap zs) (h100 : len ≤ 100) (hD : D = 16) :
    Calls Tryd.prog 5 #[.agg #[.int .i64 D, .int .i64 N, .int .i64 m.a, .int .i64 m.b, .int .i64 m.c, .int .i64 m.d, .int .i64 m.x, .int .i64 m.y, .slice a len cap, .int .i64 px, .int .i64 py]] w fun e w' => e = .returned (.bool true) ∧ Up w w' := by
  have t0 : decide ((100 : Int) < (len : Int)) = false := decide_eq_false (by omega)
  subst hD
  have HI := Lib.hid h
  clear h
  go_enter Tryd.func5, Tryd.ntmps5
  go_wp2_with (first
    | (go_at_call 8; ((with_reducible refine (call_all D k16 N m a len cap zs px py _ (isRow_up HI.out (by (repeat' (first | (with_reducible exact Up.refl _) | (with_reducible assumption) | (with_reducible refine Up.alloc ?_ _) | (with_reducible refine Up.drew ?_) | (with_reducible refine Up.drewN ?_ _) | (with_reducible refine Up.setCell ?_ ?_ _) | (with_reducible refine Up.call ?_ (by with_reducible assumption)) | go_size)))) h100).mono ?_); rintro E w1 ⟨⟨e, rfl, he⟩, hu1⟩; have z1 := hu1.size; (try simp at z1); have A1 := Row.up (show Row _ w.heap.size #[.int .i64 D, .int .i64 N, .int .i64 m.a, .int .i64 m.b, .int .i64 m.c, .int .i64 m.d, .int .i64 m.x, .int .i64 m.y, .slice a len cap, .int .i64 px, .int .i64 py] by (repeat' (first | (with_reducible assumption) | (with_reducible refine Row.at _ _ ?_; (simp; done)) | (with_reducible refine Row.alloc ?_ _) | (with_reducible refine Row.drew ?_) | (with_reducible refine Row.drewN ?_ _) | (with_reducible refine Row.other ?_ (by first | (simp; done) | (simp; omega) | omega) _) | (with_reducible refine Row.up ?_ (by with_reducible assumption)) | (with_reducible refine Row.chg ?_ (by with_reducible assumption) (by first | (simp; done) | (simp; omega)))))) hu1; have q0 : w1.cell? ⟨w.heap.size, 0, none⟩ = some (.int .i64 D) := A1.cell 0 rfl))
    | (go_at_call 7; ((with_reducible refine (answers_calls _).mono ?_); rintro E w2 ⟨rfl, hu2⟩))
    | (go_at_call 10; ((with_reducible refine (path_none _).mono ?_); rintro E w3 ⟨rfl, hu3⟩))
    | (go_at_call 12; ((with_reducible refine (depth_none _).mono ?_); rintro E w4 ⟨rfl, hu4⟩))
    | (go_at_call 17; ((with_reducible refine (copy_none _).mono ?_); rintro E w5 ⟨rfl, hu5⟩))
    | (go_at_call 9; ((with_reducible refine (now_none _).mono ?_); rintro E w6 ⟨rfl, hu6⟩))
    | (go_at_call 15; ((with_reducible refine (alike_start _).mono ?_); rintro E w8 ⟨rfl, hu8⟩))
    | (go_at_call 20; ((with_reducible refine (rstart_calls 1 _).mono ?_); rintro E w10 ⟨rfl, hu10⟩))
    | (go_at_call 19; ((with_reducible refine (same_start 1 _).mono ?_); rintro E w11 ⟨rfl, hu11⟩))
    | (go_at_call 18; ((with_reducible refine (start_calls _).mono ?_); rintro E w7 ⟨rfl, hu7⟩)))
  go_ret
  exact ⟨rfl, by (repeat' (first | (with_reducible exact Up.refl _) | (with_reducible assumption) | (with_reducible refine Up.alloc ?_ _) | (with_reducible refine Up.drew ?_) | (with_reducible refine Up.drewN ?_ _) | (with_reducible refine Up.setCell ?_ ?_ _) | (with_reducible refine Up.call ?_ (by with_reducible assumption)) | go_size))⟩

theorem table {W : World} (hL : laidMetH Tryd.prog Rows.gstateNoneRow.laid W) : True := trivial
theorem walk {w : World} {H : Type} {enc : TypeId × Value → H} {d : DataW H} {p : List MemPlace} (cs : Array Value) (h : DataW.Trod enc Tryd.prog w 0 (fun _ => true) true 31 (.agg cs) d p) (_ : True) :
    Calls Tryd.prog 5 #[.agg cs] w fun e w' => e = .returned (.bool true) ∧ Up w w' := by
  obtain ⟨D, N, m, a, len, cap, px, py, zs, rfl, hz⟩ := actV_of h
  by_cases h100 : len ≤ 100
  · by_cases h1 : D < 1
    · exact walk_low D N m a len cap zs px py hz h100 h1
    by_cases h2 : D = 1
    · exact walk_one D N m a len cap zs px py hz h100 (by omega) (by omega)
    by_cases h3 : D ≤ 4
    · exact walk_mid D N m a len cap zs px py hz h100 (by omega) h3
    by_cases h4 : 14 < D
    · by_cases h5 : D = 16
      · exact walk_path D N m a len cap zs px py hz h100 h5
      · exact walk_high D N m a len cap zs px py hz h100 h4 h5
    · exact walk_loud D N m a len cap zs px py hz h100 (by omega) h4
  · exact walk_far D N m a len cap zs px py hz h100

theorem own : ownKnob Tryd.prog.godebug = none := by kernel_rfl
theorem laidOut : laidOutB Tryd.prog = true := by kernel_rfl
/-- what the walk gives, for every argument and every world that holds the listed variables -/
theorem contract (H : Type) (enc : TypeId × Value → H) (W : World) (base : Nat) (args : Array Value) (ds gs : List (DataW H)) (before : List MemPlace)
    (hval : ∀ (j : Nat) t v, Tryd.f5.params[j]? = some t → args[j]? = some v → Value.okWide Tryd.prog W .any base t v)
    (hW : DataW.Whole enc Tryd.prog Tryd.f5.params.toList Rows.gstateNoneSpec.vars false W args.toList ds gs before) (hL : laidMetH Tryd.prog Rows.gstateNoneRow.laid W) :
    Calls Tryd.prog 5 args W fun e W' => ∃ v, e = .returned v ∧ Rows.gstateNoneSpec.post enc Tryd.prog Tryd.f5 false true false false W args v W' := by
  have hW' := hW
  obtain ⟨p, q, hA0, hV, rfl, hfz, hnd⟩ := hW
  have hA : DataW.TrodAll enc Tryd.prog W 0 (fun _ => true) true Tryd.f5.params.toList args.toList ds p := hA0
  rw [Tryd.params5] at hA hval
  obtain ⟨v0, vs0, d0, ds0, p0, q0, hargs, rfl, rfl, h0, r0⟩ := trodAll_cons hA
  obtain ⟨rfl, rfl, rfl⟩ := trodAll_nil r0
  obtain rfl : args = #[v0] := by cases args; simp_all
  obtain ⟨rfl, rfl⟩ := trodVars_none hV
  have k0 := h0
  have lt0 : ∀ x ∈ p0, x.block < W.heap.size := by obtain ⟨m, hm⟩ := k0; exact DataW.trod_lt m _ _ _ hm
  obtain ⟨cs0, rfl⟩ := actV_agg h0
  clear hA0 hval
  refine (walk (w := W) cs0 h0 (table hL)).mono fun e W' ⟨he, bel⟩ => ?_
  subst he
  exact ⟨_, rfl, _, _, _, [], _, [], hW', trodAll_mk1 (shut_bool Tryd.underlying4 _), (trodAll_cons_mk (Below.trod laidOut (by kernel_rfl) (of_decide_eq_true (by kernel_rfl)) k0 bel lt0) trodAll_mk0), rfl, bel.frame _, fun h => by cases h⟩
noncomputable def laidWorld (os : Os) : World :=
  { World.holding Tryd.prog os ⟨#[], #[], []⟩ with
    heap := ((World.holding Tryd.prog os ⟨#[], #[], []⟩).heap).modify 0 fun
      | .cells _ t frozen => .cells #[.string ⟨#[67, 111, 117, 114, 105, 101, 114]⟩, .string ⟨#[67, 111, 117, 114, 105, 101, 114, 45, 66, 111, 108, 100]⟩, .string ⟨#[67, 111, 117, 114, 105, 101, 114, 45, 79, 98, 108, 105, 113, 117, 101]⟩, .string ⟨#[67, 111, 117, 114, 105, 101, 114, 45, 66, 111, 108, 100, 79, 98, 108, 105, 113, 117, 101]⟩, .string ⟨#[72, 101, 108, 118, 101, 116, 105, 99, 97]⟩, .string ⟨#[72, 101, 108, 118, 101, 116, 105, 99, 97, 45, 66, 111, 108, 100]⟩, .string ⟨#[72, 101, 108, 118, 101, 116, 105, 99, 97, 45, 79, 98, 108, 105, 113, 117, 101]⟩, .string ⟨#[72, 101, 108, 118, 101, 116, 105, 99, 97, 45, 66, 111, 108, 100, 79, 98, 108, 105, 113, 117, 101]⟩, .string ⟨#[84, 105, 109, 101, 115, 45, 82, 111, 109, 97, 110]⟩, .string ⟨#[84, 105, 109, 101, 115, 45, 66, 111, 108, 100]⟩, .string ⟨#[84, 105, 109, 101, 115, 45, 73, 116, 97, 108, 105, 99]⟩, .string ⟨#[84, 105, 109, 101, 115, 45, 66, 111, 108, 100, 73, 116, 97, 108, 105, 99]⟩, .string ⟨#[83, 121, 109, 98, 111, 108]⟩, .string ⟨#[90, 97, 112, 102, 68, 105, 110, 103, 98, 97, 116, 115]⟩] t frozen
      | o => o }
theorem laid_met (os : Os) : laidMet Tryd.prog Rows.gstateNoneRow.laid ((laidWorld os).forCall (fun _ _ => 0) ⟨#[], #[.agg #[.int .i64 0, .int .i64 0, .int .i64 0, .int .i64 0, .int .i64 0, .int .i64 0, .int .i64 0, .int .i64 0, .slice none 0 0, .int .i64 0, .int .i64 0]], []⟩).memory :=
  laidMet_of_run' 8 (by kernel_rfl) (by kernel_rfl)
theorem reads (os : Os) {H : Type} (enc : TypeId × Value → H) : ∃ places, DataW.whole enc Tryd.prog ((laidWorld os).forCall (fun _ _ => 0) ⟨#[], #[.agg #[.int .i64 0, .int .i64 0, .int .i64 0, .int .i64 0, .int .i64 0, .int .i64 0, .int .i64 0, .int .i64 0, .slice none 0 0, .int .i64 0, .int .i64 0]], []⟩).memory Tryd.f5.params.toList Rows.gstateNoneSpec.vars false #[(.agg #[.int .i64 0, .int .i64 0, .int .i64 0, .int .i64 0, .int .i64 0, .int .i64 0, .int .i64 0, .int .i64 0, .slice none 0 0, .int .i64 0, .int .i64 0] : Value)].toList 8 = some ([.agg [.lit (.int .i64 0), .lit (.int .i64 0), .agg [.lit (.int .i64 0), .lit (.int .i64 0), .lit (.int .i64 0), .lit (.int .i64 0), .lit (.int .i64 0), .lit (.int .i64 0)], .nil, .agg [.lit (.int .i64 0), .lit (.int .i64 0)]]], [], places) :=
  ⟨[], by kernel_rfl⟩
set_option maxRecDepth 100000 in
theorem lifted (os : Os) (started : os.Started) (H : Type) (enc : TypeId × Value → H) (F : Stop.Interp) :
    ReturnsInHanded {} Tryd.checked os 5 .any ((OpenSpec.ofChange Rows.gstateNoneSpec).preRow enc Tryd.prog Tryd.f5 Rows.gstateNoneRow.domain false Rows.gstateNoneRow.laid) (((OpenSpec.ofChange Rows.gstateNoneSpec).at F).post enc Tryd.prog Tryd.f5 false true false false) := by
  obtain ⟨places, hx⟩ := reads os enc
  refine returnsInHanded_of_row (C := Tryd.checked) (s := OpenSpec.ofChange Rows.gstateNoneSpec) own started (by kernel_rfl) Tryd.func5
    (witness_row_at (enc := enc) (C := Tryd.checked) false (laidWorld os) #[.agg #[.int .i64 0, .int .i64 0, .int .i64 0, .int .i64 0, .int .i64 0, .int .i64 0, .int .i64 0, .int .i64 0, .slice none 0 0, .int .i64 0, .int .i64 0]] rfl (by kernel_rfl) (by kernel_rfl) (by kernel_rfl)
      (OpenSpec.preRow_of_cond 8 hx (by kernel_rfl) (fun k hk => by cases hk) (by kernel_rfl) (laid_met os))) ?_
  intro W base args ds gs before hval hW _ _ _ hL _ _
  exact contract H enc W base args ds gs before hval hW hL
theorem said : Rows.GstateNoneSaid :=
  OpenClaim.holds_of_cond 5 Tryd.f5 rfl rfl rfl rfl rfl rfl rfl ⟨rfl, rfl, rfl, rfl, rfl⟩ rfl rfl rfl rfl rfl (by kernel_rfl) Tryd.func5 (by kernel_rfl)
    (of_decide_eq_true (by kernel_rfl)) (by unfold Func.isWrapper; first | (rw [if_pos (by decide +kernel)]; kernel_rfl) | (rw [if_neg (by decide +kernel)]; exact ⟨rfl, rfl⟩))
    (fun os started H enc _ F => by rw [OpenClaim.pre_eq_preRow]; exact lifted os started H enc F)
theorem plain (f : FuncId) (fn : Func) (hf : Tryd.pinned.checked.prog.funcNamed "mezzotint/mezzotintlaw14.GstateNone" = some f) (hfn : Tryd.pinned.checked.prog.funcs[f]? = some fn) :
    false = Tryd.pinned.checked.prog.looks [] ∧ ∀ (j : Nat) t, fn.params[j]? = some t → Tryd.pinned.checked.prog.wantsStandIn t = false := by
  obtain rfl : f = 5 := Option.some.inj ((show Tryd.prog.funcNamed "mezzotint/mezzotintlaw14.GstateNone" = some 5 by kernel_rfl).symm.trans hf) |>.symm
  obtain rfl : fn = Tryd.f5 := (Option.some.inj (Tryd.func5.symm.trans hfn)).symm
  refine ⟨by kernel_rfl, fun j t ht => ?_⟩
  rw [Tryd.params5] at ht
  have hm : t ∈ [31] := by have := Array.mem_of_getElem? ht; simpa using this
  simp only [List.mem_cons, List.not_mem_nil, or_false] at hm
  subst hm
  exact (show Tryd.prog.wantsStandIn 31 = false by kernel_rfl)
/-- THE CARD -/
theorem card : Rows.GstateNoneCardSaid :=
  Claim7.holds_tied_plain_at .later [] _ _ _ _ said (fun _ h => by cases h) (by kernel_rfl) (fun _ h => by cases h) gstateNone_row_tie rfl ⟨rfl, rfl⟩ (by kernel_rfl) rfl plain (by kernel_rfl)
#print axioms card
end Go.Proofs.YtoflafbhfoncmaaDoor.gstateNone
