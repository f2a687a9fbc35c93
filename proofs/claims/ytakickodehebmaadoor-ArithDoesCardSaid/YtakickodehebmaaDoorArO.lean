/- An operator is done, of two operands: package arith. -/
import Derived.Test.YtakickodehebmaaDoorArH
import Derived.Test.YtakickodehebmaaDoorArI
import Derived.Test.YtakickodehebmaaDoorArJ
import Derived.Test.YtakickodehebmaaDoorArK
import Derived.Test.YtakickodehebmaaDoorArL
import Derived.Deep.RegionHeld3
namespace Go.Proofs.YtakickodehebmaaDoor.Ar
open Go.ChangeShapes Go.WideShapes Go.ChangeAt Go.RowKit
open Go.Proofs.YtakickodehebmaaDoor.FixM (fits within)
open Go.Proofs.YtakickodehebmaaDoor.ArM
set_option linter.unusedVariables false
set_option linter.unusedSimpArgs false
set_option maxHeartbeats 1000000 in
theorem do_10 (k : Int) (x : Bool) (a n : Int) (s : ByteArray) (r f l : Int) (k' : Int) (x' : Bool) (a' n' : Int) (s' : ByteArray) (r' f' l' : Int) (g c : Nat) (w : World) (R : Cs w g #[.int .i64 k, .bool x, .int .i64 a, .int .i64 n, .string s, .int .i64 r, .int .i64 f, .int .i64 l, .int .i64 k', .bool x', .int .i64 a', .int .i64 n', .string s', .int .i64 r', .int .i64 f', .int .i64 l']) (hg : g < w.heap.size) (rk rn re : Int) (hR : bin 10 k n k' n' = (rk, rn, re)) :
    Calls Tryd.prog 10 #[.string ⟨#[97, 100, 100]⟩, .slice (some ⟨g, 0, none⟩) 2 c] w fun E w' => Gives w rk rn re E w' ∧ Up w w' := by
  have HR := Lib.hid hR
  have hg1 : g < w.heap.size + 1 := by omega
  have hgn : ¬ w.heap.size = g := by omega
  have c0 := R 0 _ rfl
  have c1 := R 1 _ rfl
  have c2 := R 2 _ rfl
  have c3 := R 3 _ rfl
  have c4 := R 4 _ rfl
  have c5 := R 5 _ rfl
  have c6 := R 6 _ rfl
  have c7 := R 7 _ rfl
  have c8 := R 8 _ rfl
  have c9 := R 9 _ rfl
  have c10 := R 10 _ rfl
  have c11 := R 11 _ rfl
  have c12 := R 12 _ rfl
  have c13 := R 13 _ rfl
  have c14 := R 14 _ rfl
  have c15 := R 15 _ rfl
  clear R hR
  by_cases z : re = 0
  · subst z
    go_enter Tryd.func10, Tryd.ntmps10
    go_wp2_with (first
      | (go_at_call 7; ((with_reducible refine (known_10 _).mono ?_); rintro E w0 ⟨rfl, rfl⟩)))
    go_region_held3 (fun w' => w'.cell? ⟨g, 0, none⟩ = some (.int .i64 k) ∧ w'.cell? ⟨g, 1, none⟩ = some (.bool x) ∧ w'.cell? ⟨g, 2, none⟩ = some (.int .i64 a) ∧ w'.cell? ⟨g, 3, none⟩ = some (.int .i64 n) ∧ w'.cell? ⟨g, 4, none⟩ = some (.string s) ∧ w'.cell? ⟨g, 5, none⟩ = some (.int .i64 r) ∧ w'.cell? ⟨g, 6, none⟩ = some (.int .i64 f) ∧ w'.cell? ⟨g, 7, none⟩ = some (.int .i64 l) ∧ w'.cell? ⟨g, 8, none⟩ = some (.int .i64 k') ∧ w'.cell? ⟨g, 9, none⟩ = some (.bool x') ∧ w'.cell? ⟨g, 10, none⟩ = some (.int .i64 a') ∧ w'.cell? ⟨g, 11, none⟩ = some (.int .i64 n') ∧ w'.cell? ⟨g, 12, none⟩ = some (.string s') ∧ w'.cell? ⟨g, 13, none⟩ = some (.int .i64 r') ∧ w'.cell? ⟨g, 14, none⟩ = some (.int .i64 f') ∧ w'.cell? ⟨g, 15, none⟩ = some (.int .i64 l')) (first | (with_reducible exact ⟨c0, c1, c2, c3, c4, c5, c6, c7, c8, c9, c10, c11, c12, c13, c14, c15⟩) | go_keep) (first
      | (go_at_call 17; ((with_reducible refine (two_10 k x a n s r f l k' x' a' n' s' r' f' l' _ _ _ _ HR.out).mono ?_); rintro E w1 ⟨rfl, hu1⟩; have k_w1 := hu1.cells.1; have f_w1 := hu1.cells.2; have z_w1 := hu1.size; (try simp at z_w1); have l0_w1 : w.heap.size < w1.heap.size := (by omega); (try clear q0 y0 q1 y1 q2 y2 q3 y3 q4 y4 q5 y5 q6 y6 q7 y7); have RZ_w1 : Row w1 (w.heap.size) #[.int .i64 0, .bool false, .int .i64 0, .int .i64 0, .string ⟨#[]⟩, .int .i64 0, .int .i64 0, .int .i64 0] := Row.up (by (repeat' (first | (with_reducible assumption) | (with_reducible refine Row.at _ _ ?_; (simp; done)) | (with_reducible refine Row.alloc ?_ _) | (with_reducible refine Row.drew ?_) | (with_reducible refine Row.drewN ?_ _) | (with_reducible refine Row.other ?_ (by first | (simp; done) | (simp; omega) | omega) _) | (with_reducible refine Row.up ?_ (by with_reducible assumption)) | (with_reducible refine Row.chg ?_ (by with_reducible assumption) (by first | (simp; done) | (simp; omega)))))) hu1; obtain ⟨q0, y0, q1, y1, q2, y2, q3, y3, q4, y4, q5, y5, q6, y6, q7, y7⟩ := zrow_out RZ_w1)))
    go_wp2
    go_ret2
    exact ⟨Or.inl ⟨rfl, w1.heap.size, by omega, rfl, by (repeat' (first | (with_reducible assumption) | (with_reducible refine Row.at _ _ ?_; (simp; done)) | (with_reducible refine Row.alloc ?_ _) | (with_reducible refine Row.drew ?_) | (with_reducible refine Row.drewN ?_ _) | (with_reducible refine Row.other ?_ (by first | (simp; done) | (simp; omega) | omega) _) | (with_reducible refine Row.up ?_ (by with_reducible assumption)) | (with_reducible refine Row.chg ?_ (by with_reducible assumption) (by first | (simp; done) | (simp; omega)))))⟩, by (repeat' (first | (with_reducible exact Up.refl _) | (with_reducible assumption) | (with_reducible refine Up.alloc ?_ _) | (with_reducible refine Up.drew ?_) | (with_reducible refine Up.drewN ?_ _) | (with_reducible refine Up.setCell ?_ ?_ _) | (with_reducible refine Up.call ?_ (by with_reducible assumption)) | go_size))⟩
  · have dz : (re == 0) = false := by simpa using z
    have HZ := Lib.hid z
    clear z
    go_enter Tryd.func10, Tryd.ntmps10
    go_wp2_with (first
      | (go_at_call 7; ((with_reducible refine (known_10 _).mono ?_); rintro E w0 ⟨rfl, rfl⟩)))
    go_region_held3 (fun w' => w'.cell? ⟨g, 0, none⟩ = some (.int .i64 k) ∧ w'.cell? ⟨g, 1, none⟩ = some (.bool x) ∧ w'.cell? ⟨g, 2, none⟩ = some (.int .i64 a) ∧ w'.cell? ⟨g, 3, none⟩ = some (.int .i64 n) ∧ w'.cell? ⟨g, 4, none⟩ = some (.string s) ∧ w'.cell? ⟨g, 5, none⟩ = some (.int .i64 r) ∧ w'.cell? ⟨g, 6, none⟩ = some (.int .i64 f) ∧ w'.cell? ⟨g, 7, none⟩ = some (.int .i64 l) ∧ w'.cell? ⟨g, 8, none⟩ = some (.int .i64 k') ∧ w'.cell? ⟨g, 9, none⟩ = some (.bool x') ∧ w'.cell? ⟨g, 10, none⟩ = some (.int .i64 a') ∧ w'.cell? ⟨g, 11, none⟩ = some (.int .i64 n') ∧ w'.cell? ⟨g, 12, none⟩ = some (.string s') ∧ w'.cell? ⟨g, 13, none⟩ = some (.int .i64 r') ∧ w'.cell? ⟨g, 14, none⟩ = some (.int .i64 f') ∧ w'.cell? ⟨g, 15, none⟩ = some (.int .i64 l')) (first | (with_reducible exact ⟨c0, c1, c2, c3, c4, c5, c6, c7, c8, c9, c10, c11, c12, c13, c14, c15⟩) | go_keep) (first
      | (go_at_call 17; ((with_reducible refine (two_10 k x a n s r f l k' x' a' n' s' r' f' l' _ _ _ _ HR.out).mono ?_); rintro E w1 ⟨rfl, hu1⟩; have k_w1 := hu1.cells.1; have f_w1 := hu1.cells.2; have z_w1 := hu1.size; (try simp at z_w1); have l0_w1 : w.heap.size < w1.heap.size := (by omega); (try clear q0 y0 q1 y1 q2 y2 q3 y3 q4 y4 q5 y5 q6 y6 q7 y7); have RZ_w1 : Row w1 (w.heap.size) #[.int .i64 0, .bool false, .int .i64 0, .int .i64 0, .string ⟨#[]⟩, .int .i64 0, .int .i64 0, .int .i64 0] := Row.up (by (repeat' (first | (with_reducible assumption) | (with_reducible refine Row.at _ _ ?_; (simp; done)) | (with_reducible refine Row.alloc ?_ _) | (with_reducible refine Row.drew ?_) | (with_reducible refine Row.drewN ?_ _) | (with_reducible refine Row.other ?_ (by first | (simp; done) | (simp; omega) | omega) _) | (with_reducible refine Row.up ?_ (by with_reducible assumption)) | (with_reducible refine Row.chg ?_ (by with_reducible assumption) (by first | (simp; done) | (simp; omega)))))) hu1; obtain ⟨q0, y0, q1, y1, q2, y2, q3, y3, q4, y4, q5, y5, q6, y6, q7, y7⟩ := zrow_out RZ_w1)))
    go_wp2
    go_ret2
    exact ⟨Or.inr ⟨HZ.out, rfl⟩, by (repeat' (first | (with_reducible exact Up.refl _) | (with_reducible assumption) | (with_reducible refine Up.alloc ?_ _) | (with_reducible refine Up.drew ?_) | (with_reducible refine Up.drewN ?_ _) | (with_reducible refine Up.setCell ?_ ?_ _) | (with_reducible refine Up.call ?_ (by with_reducible assumption)) | go_size))⟩

set_option maxHeartbeats 1000000 in
theorem do_11 (k : Int) (x : Bool) (a n : Int) (s : ByteArray) (r f l : Int) (k' : Int) (x' : Bool) (a' n' : Int) (s' : ByteArray) (r' f' l' : Int) (g c : Nat) (w : World) (R : Cs w g #[.int .i64 k, .bool x, .int .i64 a, .int .i64 n, .string s, .int .i64 r, .int .i64 f, .int .i64 l, .int .i64 k', .bool x', .int .i64 a', .int .i64 n', .string s', .int .i64 r', .int .i64 f', .int .i64 l']) (hg : g < w.heap.size) (rk rn re : Int) (hR : bin 11 k n k' n' = (rk, rn, re)) :
    Calls Tryd.prog 10 #[.string ⟨#[115, 117, 98]⟩, .slice (some ⟨g, 0, none⟩) 2 c] w fun E w' => Gives w rk rn re E w' ∧ Up w w' := by
  have HR := Lib.hid hR
  have hg1 : g < w.heap.size + 1 := by omega
  have hgn : ¬ w.heap.size = g := by omega
  have c0 := R 0 _ rfl
  have c1 := R 1 _ rfl
  have c2 := R 2 _ rfl
  have c3 := R 3 _ rfl
  have c4 := R 4 _ rfl
  have c5 := R 5 _ rfl
  have c6 := R 6 _ rfl
  have c7 := R 7 _ rfl
  have c8 := R 8 _ rfl
  have c9 := R 9 _ rfl
  have c10 := R 10 _ rfl
  have c11 := R 11 _ rfl
  have c12 := R 12 _ rfl
  have c13 := R 13 _ rfl
  have c14 := R 14 _ rfl
  have c15 := R 15 _ rfl
  clear R hR
  by_cases z : re = 0
  · subst z
    go_enter Tryd.func10, Tryd.ntmps10
    go_wp2_with (first
      | (go_at_call 7; ((with_reducible refine (known_11 _).mono ?_); rintro E w0 ⟨rfl, rfl⟩)))
    go_region_held3 (fun w' => w'.cell? ⟨g, 0, none⟩ = some (.int .i64 k) ∧ w'.cell? ⟨g, 1, none⟩ = some (.bool x) ∧ w'.cell? ⟨g, 2, none⟩ = some (.int .i64 a) ∧ w'.cell? ⟨g, 3, none⟩ = some (.int .i64 n) ∧ w'.cell? ⟨g, 4, none⟩ = some (.string s) ∧ w'.cell? ⟨g, 5, none⟩ = some (.int .i64 r) ∧ w'.cell? ⟨g, 6, none⟩ = some (.int .i64 f) ∧ w'.cell? ⟨g, 7, none⟩ = some (.int .i64 l) ∧ w'.cell? ⟨g, 8, none⟩ = some (.int .i64 k') ∧ w'.cell? ⟨g, 9, none⟩ = some (.bool x') ∧ w'.cell? ⟨g, 10, none⟩ = some (.int .i64 a') ∧ w'.cell? ⟨g, 11, none⟩ = some (.int .i64 n') ∧ w'.cell? ⟨g, 12, none⟩ = some (.string s') ∧ w'.cell? ⟨g, 13, none⟩ = some (.int .i64 r') ∧ w'.cell? ⟨g, 14, none⟩ = some (.int .i64 f') ∧ w'.cell? ⟨g, 15, none⟩ = some (.int .i64 l')) (first | (with_reducible exact ⟨c0, c1, c2, c3, c4, c5, c6, c7, c8, c9, c10, c11, c12, c13, c14, c15⟩) | go_keep) (first
      | (go_at_call 17; ((with_reducible refine (two_11 k x a n s r f l k' x' a' n' s' r' f' l' _ _ _ _ HR.out).mono ?_); rintro E w1 ⟨rfl, hu1⟩; have k_w1 := hu1.cells.1; have f_w1 := hu1.cells.2; have z_w1 := hu1.size; (try simp at z_w1); have l0_w1 : w.heap.size < w1.heap.size := (by omega); (try clear q0 y0 q1 y1 q2 y2 q3 y3 q4 y4 q5 y5 q6 y6 q7 y7); have RZ_w1 : Row w1 (w.heap.size) #[.int .i64 0, .bool false, .int .i64 0, .int .i64 0, .string ⟨#[]⟩, .int .i64 0, .int .i64 0, .int .i64 0] := Row.up (by (repeat' (first | (with_reducible assumption) | (with_reducible refine Row.at _ _ ?_; (simp; done)) | (with_reducible refine Row.alloc ?_ _) | (with_reducible refine Row.drew ?_) | (with_reducible refine Row.drewN ?_ _) | (with_reducible refine Row.other ?_ (by first | (simp; done) | (simp; omega) | omega) _) | (with_reducible refine Row.up ?_ (by with_reducible assumption)) | (with_reducible refine Row.chg ?_ (by with_reducible assumption) (by first | (simp; done) | (simp; omega)))))) hu1; obtain ⟨q0, y0, q1, y1, q2, y2, q3, y3, q4, y4, q5, y5, q6, y6, q7, y7⟩ := zrow_out RZ_w1)))
    go_wp2
    go_ret2
    exact ⟨Or.inl ⟨rfl, w1.heap.size, by omega, rfl, by (repeat' (first | (with_reducible assumption) | (with_reducible refine Row.at _ _ ?_; (simp; done)) | (with_reducible refine Row.alloc ?_ _) | (with_reducible refine Row.drew ?_) | (with_reducible refine Row.drewN ?_ _) | (with_reducible refine Row.other ?_ (by first | (simp; done) | (simp; omega) | omega) _) | (with_reducible refine Row.up ?_ (by with_reducible assumption)) | (with_reducible refine Row.chg ?_ (by with_reducible assumption) (by first | (simp; done) | (simp; omega)))))⟩, by (repeat' (first | (with_reducible exact Up.refl _) | (with_reducible assumption) | (with_reducible refine Up.alloc ?_ _) | (with_reducible refine Up.drew ?_) | (with_reducible refine Up.drewN ?_ _) | (with_reducible refine Up.setCell ?_ ?_ _) | (with_reducible refine Up.call ?_ (by with_reducible assumption)) | go_size))⟩
  · have dz : (re == 0) = false := by simpa using z
    have HZ := Lib.hid z
    clear z
    go_enter Tryd.func10, Tryd.ntmps10
    go_wp2_with (first
      | (go_at_call 7; ((with_reducible refine (known_11 _).mono ?_); rintro E w0 ⟨rfl, rfl⟩)))
    go_region_held3 (fun w' => w'.cell? ⟨g, 0, none⟩ = some (.int .i64 k) ∧ w'.cell? ⟨g, 1, none⟩ = some (.bool x) ∧ w'.cell? ⟨g, 2, none⟩ = some (.int .i64 a) ∧ w'.cell? ⟨g, 3, none⟩ = some (.int .i64 n) ∧ w'.cell? ⟨g, 4, none⟩ = some (.string s) ∧ w'.cell? ⟨g, 5, none⟩ = some (.int .i64 r) ∧ w'.cell? ⟨g, 6, none⟩ = some (.int .i64 f) ∧ w'.cell? ⟨g, 7, none⟩ = some (.int .i64 l) ∧ w'.cell? ⟨g, 8, none⟩ = some (.int .i64 k') ∧ w'.cell? ⟨g, 9, none⟩ = some (.bool x') ∧ w'.cell? ⟨g, 10, none⟩ = some (.int .i64 a') ∧ w'.cell? ⟨g, 11, none⟩ = some (.int .i64 n') ∧ w'.cell? ⟨g, 12, none⟩ = some (.string s') ∧ w'.cell? ⟨g, 13, none⟩ = some (.int .i64 r') ∧ w'.cell? ⟨g, 14, none⟩ = some (.int .i64 f') ∧ w'.cell? ⟨g, 15, none⟩ = some (.int .i64 l')) (first | (with_reducible exact ⟨c0, c1, c2, c3, c4, c5, c6, c7, c8, c9, c10, c11, c12, c13, c14, c15⟩) | go_keep) (first
      | (go_at_call 17; ((with_reducible refine (two_11 k x a n s r f l k' x' a' n' s' r' f' l' _ _ _ _ HR.out).mono ?_); rintro E w1 ⟨rfl, hu1⟩; have k_w1 := hu1.cells.1; have f_w1 := hu1.cells.2; have z_w1 := hu1.size; (try simp at z_w1); have l0_w1 : w.heap.size < w1.heap.size := (by omega); (try clear q0 y0 q1 y1 q2 y2 q3 y3 q4 y4 q5 y5 q6 y6 q7 y7); have RZ_w1 : Row w1 (w.heap.size) #[.int .i64 0, .bool false, .int .i64 0, .int .i64 0, .string ⟨#[]⟩, .int .i64 0, .int .i64 0, .int .i64 0] := Row.up (by (repeat' (first | (with_reducible assumption) | (with_reducible refine Row.at _ _ ?_; (simp; done)) | (with_reducible refine Row.alloc ?_ _) | (with_reducible refine Row.drew ?_) | (with_reducible refine Row.drewN ?_ _) | (with_reducible refine Row.other ?_ (by first | (simp; done) | (simp; omega) | omega) _) | (with_reducible refine Row.up ?_ (by with_reducible assumption)) | (with_reducible refine Row.chg ?_ (by with_reducible assumption) (by first | (simp; done) | (simp; omega)))))) hu1; obtain ⟨q0, y0, q1, y1, q2, y2, q3, y3, q4, y4, q5, y5, q6, y6, q7, y7⟩ := zrow_out RZ_w1)))
    go_wp2
    go_ret2
    exact ⟨Or.inr ⟨HZ.out, rfl⟩, by (repeat' (first | (with_reducible exact Up.refl _) | (with_reducible assumption) | (with_reducible refine Up.alloc ?_ _) | (with_reducible refine Up.drew ?_) | (with_reducible refine Up.drewN ?_ _) | (with_reducible refine Up.setCell ?_ ?_ _) | (with_reducible refine Up.call ?_ (by with_reducible assumption)) | go_size))⟩

set_option maxHeartbeats 1000000 in
theorem do_12 (k : Int) (x : Bool) (a n : Int) (s : ByteArray) (r f l : Int) (k' : Int) (x' : Bool) (a' n' : Int) (s' : ByteArray) (r' f' l' : Int) (g c : Nat) (w : World) (R : Cs w g #[.int .i64 k, .bool x, .int .i64 a, .int .i64 n, .string s, .int .i64 r, .int .i64 f, .int .i64 l, .int .i64 k', .bool x', .int .i64 a', .int .i64 n', .string s', .int .i64 r', .int .i64 f', .int .i64 l']) (hg : g < w.heap.size) (rk rn re : Int) (hR : bin 12 k n k' n' = (rk, rn, re)) :
    Calls Tryd.prog 10 #[.string ⟨#[109, 117, 108]⟩, .slice (some ⟨g, 0, none⟩) 2 c] w fun E w' => Gives w rk rn re E w' ∧ Up w w' := by
  have HR := Lib.hid hR
  have hg1 : g < w.heap.size + 1 := by omega
  have hgn : ¬ w.heap.size = g := by omega
  have c0 := R 0 _ rfl
  have c1 := R 1 _ rfl
  have c2 := R 2 _ rfl
  have c3 := R 3 _ rfl
  have c4 := R 4 _ rfl
  have c5 := R 5 _ rfl
  have c6 := R 6 _ rfl
  have c7 := R 7 _ rfl
  have c8 := R 8 _ rfl
  have c9 := R 9 _ rfl
  have c10 := R 10 _ rfl
  have c11 := R 11 _ rfl
  have c12 := R 12 _ rfl
  have c13 := R 13 _ rfl
  have c14 := R 14 _ rfl
  have c15 := R 15 _ rfl
  clear R hR
  by_cases z : re = 0
  · subst z
    go_enter Tryd.func10, Tryd.ntmps10
    go_wp2_with (first
      | (go_at_call 7; ((with_reducible refine (known_12 _).mono ?_); rintro E w0 ⟨rfl, rfl⟩)))
    go_region_held3 (fun w' => w'.cell? ⟨g, 0, none⟩ = some (.int .i64 k) ∧ w'.cell? ⟨g, 1, none⟩ = some (.bool x) ∧ w'.cell? ⟨g, 2, none⟩ = some (.int .i64 a) ∧ w'.cell? ⟨g, 3, none⟩ = some (.int .i64 n) ∧ w'.cell? ⟨g, 4, none⟩ = some (.string s) ∧ w'.cell? ⟨g, 5, none⟩ = some (.int .i64 r) ∧ w'.cell? ⟨g, 6, none⟩ = some (.int .i64 f) ∧ w'.cell? ⟨g, 7, none⟩ = some (.int .i64 l) ∧ w'.cell? ⟨g, 8, none⟩ = some (.int .i64 k') ∧ w'.cell? ⟨g, 9, none⟩ = some (.bool x') ∧ w'.cell? ⟨g, 10, none⟩ = some (.int .i64 a') ∧ w'.cell? ⟨g, 11, none⟩ = some (.int .i64 n') ∧ w'.cell? ⟨g, 12, none⟩ = some (.string s') ∧ w'.cell? ⟨g, 13, none⟩ = some (.int .i64 r') ∧ w'.cell? ⟨g, 14, none⟩ = some (.int .i64 f') ∧ w'.cell? ⟨g, 15, none⟩ = some (.int .i64 l')) (first | (with_reducible exact ⟨c0, c1, c2, c3, c4, c5, c6, c7, c8, c9, c10, c11, c12, c13, c14, c15⟩) | go_keep) (first
      | (go_at_call 17; ((with_reducible refine (two_12 k x a n s r f l k' x' a' n' s' r' f' l' _ _ _ _ HR.out).mono ?_); rintro E w1 ⟨rfl, hu1⟩; have k_w1 := hu1.cells.1; have f_w1 := hu1.cells.2; have z_w1 := hu1.size; (try simp at z_w1); have l0_w1 : w.heap.size < w1.heap.size := (by omega); (try clear q0 y0 q1 y1 q2 y2 q3 y3 q4 y4 q5 y5 q6 y6 q7 y7); have RZ_w1 : Row w1 (w.heap.size) #[.int .i64 0, .bool false, .int .i64 0, .int .i64 0, .string ⟨#[]⟩, .int .i64 0, .int .i64 0, .int .i64 0] := Row.up (by (repeat' (first | (with_reducible assumption) | (with_reducible refine Row.at _ _ ?_; (simp; done)) | (with_reducible refine Row.alloc ?_ _) | (with_reducible refine Row.drew ?_) | (with_reducible refine Row.drewN ?_ _) | (with_reducible refine Row.other ?_ (by first | (simp; done) | (simp; omega) | omega) _) | (with_reducible refine Row.up ?_ (by with_reducible assumption)) | (with_reducible refine Row.chg ?_ (by with_reducible assumption) (by first | (simp; done) | (simp; omega)))))) hu1; obtain ⟨q0, y0, q1, y1, q2, y2, q3, y3, q4, y4, q5, y5, q6, y6, q7, y7⟩ := zrow_out RZ_w1)))
    go_wp2
    go_ret2
    exact ⟨Or.inl ⟨rfl, w1.heap.size, by omega, rfl, by (repeat' (first | (with_reducible assumption) | (with_reducible refine Row.at _ _ ?_; (simp; done)) | (with_reducible refine Row.alloc ?_ _) | (with_reducible refine Row.drew ?_) | (with_reducible refine Row.drewN ?_ _) | (with_reducible refine Row.other ?_ (by first | (simp; done) | (simp; omega) | omega) _) | (with_reducible refine Row.up ?_ (by with_reducible assumption)) | (with_reducible refine Row.chg ?_ (by with_reducible assumption) (by first | (simp; done) | (simp; omega)))))⟩, by (repeat' (first | (with_reducible exact Up.refl _) | (with_reducible assumption) | (with_reducible refine Up.alloc ?_ _) | (with_reducible refine Up.drew ?_) | (with_reducible refine Up.drewN ?_ _) | (with_reducible refine Up.setCell ?_ ?_ _) | (with_reducible refine Up.call ?_ (by with_reducible assumption)) | go_size))⟩
  · have dz : (re == 0) = false := by simpa using z
    have HZ := Lib.hid z
    clear z
    go_enter Tryd.func10, Tryd.ntmps10
    go_wp2_with (first
      | (go_at_call 7; ((with_reducible refine (known_12 _).mono ?_); rintro E w0 ⟨rfl, rfl⟩)))
    go_region_held3 (fun w' => w'.cell? ⟨g, 0, none⟩ = some (.int .i64 k) ∧ w'.cell? ⟨g, 1, none⟩ = some (.bool x) ∧ w'.cell? ⟨g, 2, none⟩ = some (.int .i64 a) ∧ w'.cell? ⟨g, 3, none⟩ = some (.int .i64 n) ∧ w'.cell? ⟨g, 4, none⟩ = some (.string s) ∧ w'.cell? ⟨g, 5, none⟩ = some (.int .i64 r) ∧ w'.cell? ⟨g, 6, none⟩ = some (.int .i64 f) ∧ w'.cell? ⟨g, 7, none⟩ = some (.int .i64 l) ∧ w'.cell? ⟨g, 8, none⟩ = some (.int .i64 k') ∧ w'.cell? ⟨g, 9, none⟩ = some (.bool x') ∧ w'.cell? ⟨g, 10, none⟩ = some (.int .i64 a') ∧ w'.cell? ⟨g, 11, none⟩ = some (.int .i64 n') ∧ w'.cell? ⟨g, 12, none⟩ = some (.string s') ∧ w'.cell? ⟨g, 13, none⟩ = some (.int .i64 r') ∧ w'.cell? ⟨g, 14, none⟩ = some (.int .i64 f') ∧ w'.cell? ⟨g, 15, none⟩ = some (.int .i64 l')) (first | (with_reducible exact ⟨c0, c1, c2, c3, c4, c5, c6, c7, c8, c9, c10, c11, c12, c13, c14, c15⟩) | go_keep) (first
      | (go_at_call 17; ((with_reducible refine (two_12 k x a n s r f l k' x' a' n' s' r' f' l' _ _ _ _ HR.out).mono ?_); rintro E w1 ⟨rfl, hu1⟩; have k_w1 := hu1.cells.1; have f_w1 := hu1.cells.2; have z_w1 := hu1.size; (try simp at z_w1); have l0_w1 : w.heap.size < w1.heap.size := (by omega); (try clear q0 y0 q1 y1 q2 y2 q3 y3 q4 y4 q5 y5 q6 y6 q7 y7); have RZ_w1 : Row w1 (w.heap.size) #[.int .i64 0, .bool false, .int .i64 0, .int .i64 0, .string ⟨#[]⟩, .int .i64 0, .int .i64 0, .int .i64 0] := Row.up (by (repeat' (first | (with_reducible assumption) | (with_reducible refine Row.at _ _ ?_; (simp; done)) | (with_reducible refine Row.alloc ?_ _) | (with_reducible refine Row.drew ?_) | (with_reducible refine Row.drewN ?_ _) | (with_reducible refine Row.other ?_ (by first | (simp; done) | (simp; omega) | omega) _) | (with_reducible refine Row.up ?_ (by with_reducible assumption)) | (with_reducible refine Row.chg ?_ (by with_reducible assumption) (by first | (simp; done) | (simp; omega)))))) hu1; obtain ⟨q0, y0, q1, y1, q2, y2, q3, y3, q4, y4, q5, y5, q6, y6, q7, y7⟩ := zrow_out RZ_w1)))
    go_wp2
    go_ret2
    exact ⟨Or.inr ⟨HZ.out, rfl⟩, by (repeat' (first | (with_reducible exact Up.refl _) | (with_reducible assumption) | (with_reducible refine Up.alloc ?_ _) | (with_reducible refine Up.drew ?_) | (with_reducible refine Up.drewN ?_ _) | (with_reducible refine Up.setCell ?_ ?_ _) | (with_reducible refine Up.call ?_ (by with_reducible assumption)) | go_size))⟩

set_option maxHeartbeats 1000000 in
theorem do_13 (k : Int) (x : Bool) (a n : Int) (s : ByteArray) (r f l : Int) (k' : Int) (x' : Bool) (a' n' : Int) (s' : ByteArray) (r' f' l' : Int) (g c : Nat) (w : World) (R : Cs w g #[.int .i64 k, .bool x, .int .i64 a, .int .i64 n, .string s, .int .i64 r, .int .i64 f, .int .i64 l, .int .i64 k', .bool x', .int .i64 a', .int .i64 n', .string s', .int .i64 r', .int .i64 f', .int .i64 l']) (hg : g < w.heap.size) (rk rn re : Int) (hR : bin 13 k n k' n' = (rk, rn, re)) :
    Calls Tryd.prog 10 #[.string ⟨#[100, 105, 118]⟩, .slice (some ⟨g, 0, none⟩) 2 c] w fun E w' => Gives w rk rn re E w' ∧ Up w w' := by
  have HR := Lib.hid hR
  have hg1 : g < w.heap.size + 1 := by omega
  have hgn : ¬ w.heap.size = g := by omega
  have c0 := R 0 _ rfl
  have c1 := R 1 _ rfl
  have c2 := R 2 _ rfl
  have c3 := R 3 _ rfl
  have c4 := R 4 _ rfl
  have c5 := R 5 _ rfl
  have c6 := R 6 _ rfl
  have c7 := R 7 _ rfl
  have c8 := R 8 _ rfl
  have c9 := R 9 _ rfl
  have c10 := R 10 _ rfl
  have c11 := R 11 _ rfl
  have c12 := R 12 _ rfl
  have c13 := R 13 _ rfl
  have c14 := R 14 _ rfl
  have c15 := R 15 _ rfl
  clear R hR
  by_cases z : re = 0
  · subst z
    go_enter Tryd.func10, Tryd.ntmps10
    go_wp2_with (first
      | (go_at_call 7; ((with_reducible refine (known_13 _).mono ?_); rintro E w0 ⟨rfl, rfl⟩)))
    go_region_held3 (fun w' => w'.cell? ⟨g, 0, none⟩ = some (.int .i64 k) ∧ w'.cell? ⟨g, 1, none⟩ = some (.bool x) ∧ w'.cell? ⟨g, 2, none⟩ = some (.int .i64 a) ∧ w'.cell? ⟨g, 3, none⟩ = some (.int .i64 n) ∧ w'.cell? ⟨g, 4, none⟩ = some (.string s) ∧ w'.cell? ⟨g, 5, none⟩ = some (.int .i64 r) ∧ w'.cell? ⟨g, 6, none⟩ = some (.int .i64 f) ∧ w'.cell? ⟨g, 7, none⟩ = some (.int .i64 l) ∧ w'.cell? ⟨g, 8, none⟩ = some (.int .i64 k') ∧ w'.cell? ⟨g, 9, none⟩ = some (.bool x') ∧ w'.cell? ⟨g, 10, none⟩ = some (.int .i64 a') ∧ w'.cell? ⟨g, 11, none⟩ = some (.int .i64 n') ∧ w'.cell? ⟨g, 12, none⟩ = some (.string s') ∧ w'.cell? ⟨g, 13, none⟩ = some (.int .i64 r') ∧ w'.cell? ⟨g, 14, none⟩ = some (.int .i64 f') ∧ w'.cell? ⟨g, 15, none⟩ = some (.int .i64 l')) (first | (with_reducible exact ⟨c0, c1, c2, c3, c4, c5, c6, c7, c8, c9, c10, c11, c12, c13, c14, c15⟩) | go_keep) (first
      | (go_at_call 17; ((with_reducible refine (two_13 k x a n s r f l k' x' a' n' s' r' f' l' _ _ _ _ HR.out).mono ?_); rintro E w1 ⟨rfl, hu1⟩; have k_w1 := hu1.cells.1; have f_w1 := hu1.cells.2; have z_w1 := hu1.size; (try simp at z_w1); have l0_w1 : w.heap.size < w1.heap.size := (by omega); (try clear q0 y0 q1 y1 q2 y2 q3 y3 q4 y4 q5 y5 q6 y6 q7 y7); have RZ_w1 : Row w1 (w.heap.size) #[.int .i64 0, .bool false, .int .i64 0, .int .i64 0, .string ⟨#[]⟩, .int .i64 0, .int .i64 0, .int .i64 0] := Row.up (by (repeat' (first | (with_reducible assumption) | (with_reducible refine Row.at _ _ ?_; (simp; done)) | (with_reducible refine Row.alloc ?_ _) | (with_reducible refine Row.drew ?_) | (with_reducible refine Row.drewN ?_ _) | (with_reducible refine Row.other ?_ (by first | (simp; done) | (simp; omega) | omega) _) | (with_reducible refine Row.up ?_ (by with_reducible assumption)) | (with_reducible refine Row.chg ?_ (by with_reducible assumption) (by first | (simp; done) | (simp; omega)))))) hu1; obtain ⟨q0, y0, q1, y1, q2, y2, q3, y3, q4, y4, q5, y5, q6, y6, q7, y7⟩ := zrow_out RZ_w1)))
    go_wp2
    go_ret2
    exact ⟨Or.inl ⟨rfl, w1.heap.size, by omega, rfl, by (repeat' (first | (with_reducible assumption) | (with_reducible refine Row.at _ _ ?_; (simp; done)) | (with_reducible refine Row.alloc ?_ _) | (with_reducible refine Row.drew ?_) | (with_reducible refine Row.drewN ?_ _) | (with_reducible refine Row.other ?_ (by first | (simp; done) | (simp; omega) | omega) _) | (with_reducible refine Row.up ?_ (by with_reducible assumption)) | (with_reducible refine Row.chg ?_ (by with_reducible assumption) (by first | (simp; done) | (simp; omega)))))⟩, by (repeat' (first | (with_reducible exact Up.refl _) | (with_reducible assumption) | (with_reducible refine Up.alloc ?_ _) | (with_reducible refine Up.drew ?_) | (with_reducible refine Up.drewN ?_ _) | (with_reducible refine Up.setCell ?_ ?_ _) | (with_reducible refine Up.call ?_ (by with_reducible assumption)) | go_size))⟩
  · have dz : (re == 0) = false := by simpa using z
    have HZ := Lib.hid z
    clear z
    go_enter Tryd.func10, Tryd.ntmps10
    go_wp2_with (first
      | (go_at_call 7; ((with_reducible refine (known_13 _).mono ?_); rintro E w0 ⟨rfl, rfl⟩)))
    go_region_held3 (fun w' => w'.cell? ⟨g, 0, none⟩ = some (.int .i64 k) ∧ w'.cell? ⟨g, 1, none⟩ = some (.bool x) ∧ w'.cell? ⟨g, 2, none⟩ = some (.int .i64 a) ∧ w'.cell? ⟨g, 3, none⟩ = some (.int .i64 n) ∧ w'.cell? ⟨g, 4, none⟩ = some (.string s) ∧ w'.cell? ⟨g, 5, none⟩ = some (.int .i64 r) ∧ w'.cell? ⟨g, 6, none⟩ = some (.int .i64 f) ∧ w'.cell? ⟨g, 7, none⟩ = some (.int .i64 l) ∧ w'.cell? ⟨g, 8, none⟩ = some (.int .i64 k') ∧ w'.cell? ⟨g, 9, none⟩ = some (.bool x') ∧ w'.cell? ⟨g, 10, none⟩ = some (.int .i64 a') ∧ w'.cell? ⟨g, 11, none⟩ = some (.int .i64 n') ∧ w'.cell? ⟨g, 12, none⟩ = some (.string s') ∧ w'.cell? ⟨g, 13, none⟩ = some (.int .i64 r') ∧ w'.cell? ⟨g, 14, none⟩ = some (.int .i64 f') ∧ w'.cell? ⟨g, 15, none⟩ = some (.int .i64 l')) (first | (with_reducible exact ⟨c0, c1, c2, c3, c4, c5, c6, c7, c8, c9, c10, c11, c12, c13, c14, c15⟩) | go_keep) (first
      | (go_at_call 17; ((with_reducible refine (two_13 k x a n s r f l k' x' a' n' s' r' f' l' _ _ _ _ HR.out).mono ?_); rintro E w1 ⟨rfl, hu1⟩; have k_w1 := hu1.cells.1; have f_w1 := hu1.cells.2; have z_w1 := hu1.size; (try simp at z_w1); have l0_w1 : w.heap.size < w1.heap.size := (by omega); (try clear q0 y0 q1 y1 q2 y2 q3 y3 q4 y4 q5 y5 q6 y6 q7 y7); have RZ_w1 : Row w1 (w.heap.size) #[.int .i64 0, .bool false, .int .i64 0, .int .i64 0, .string ⟨#[]⟩, .int .i64 0, .int .i64 0, .int .i64 0] := Row.up (by (repeat' (first | (with_reducible assumption) | (with_reducible refine Row.at _ _ ?_; (simp; done)) | (with_reducible refine Row.alloc ?_ _) | (with_reducible refine Row.drew ?_) | (with_reducible refine Row.drewN ?_ _) | (with_reducible refine Row.other ?_ (by first | (simp; done) | (simp; omega) | omega) _) | (with_reducible refine Row.up ?_ (by with_reducible assumption)) | (with_reducible refine Row.chg ?_ (by with_reducible assumption) (by first | (simp; done) | (simp; omega)))))) hu1; obtain ⟨q0, y0, q1, y1, q2, y2, q3, y3, q4, y4, q5, y5, q6, y6, q7, y7⟩ := zrow_out RZ_w1)))
    go_wp2
    go_ret2
    exact ⟨Or.inr ⟨HZ.out, rfl⟩, by (repeat' (first | (with_reducible exact Up.refl _) | (with_reducible assumption) | (with_reducible refine Up.alloc ?_ _) | (with_reducible refine Up.drew ?_) | (with_reducible refine Up.drewN ?_ _) | (with_reducible refine Up.setCell ?_ ?_ _) | (with_reducible refine Up.call ?_ (by with_reducible assumption)) | go_size))⟩

set_option maxHeartbeats 1000000 in
theorem do_14 (k : Int) (x : Bool) (a n : Int) (s : ByteArray) (r f l : Int) (k' : Int) (x' : Bool) (a' n' : Int) (s' : ByteArray) (r' f' l' : Int) (g c : Nat) (w : World) (R : Cs w g #[.int .i64 k, .bool x, .int .i64 a, .int .i64 n, .string s, .int .i64 r, .int .i64 f, .int .i64 l, .int .i64 k', .bool x', .int .i64 a', .int .i64 n', .string s', .int .i64 r', .int .i64 f', .int .i64 l']) (hg : g < w.heap.size) (rk rn re : Int) (hR : bin 14 k n k' n' = (rk, rn, re)) :
    Calls Tryd.prog 10 #[.string ⟨#[105, 100, 105, 118]⟩, .slice (some ⟨g, 0, none⟩) 2 c] w fun E w' => Gives w rk rn re E w' ∧ Up w w' := by
  have HR := Lib.hid hR
  have hg1 : g < w.heap.size + 1 := by omega
  have hgn : ¬ w.heap.size = g := by omega
  have c0 := R 0 _ rfl
  have c1 := R 1 _ rfl
  have c2 := R 2 _ rfl
  have c3 := R 3 _ rfl
  have c4 := R 4 _ rfl
  have c5 := R 5 _ rfl
  have c6 := R 6 _ rfl
  have c7 := R 7 _ rfl
  have c8 := R 8 _ rfl
  have c9 := R 9 _ rfl
  have c10 := R 10 _ rfl
  have c11 := R 11 _ rfl
  have c12 := R 12 _ rfl
  have c13 := R 13 _ rfl
  have c14 := R 14 _ rfl
  have c15 := R 15 _ rfl
  clear R hR
  by_cases z : re = 0
  · subst z
    go_enter Tryd.func10, Tryd.ntmps10
    go_wp2_with (first
      | (go_at_call 7; ((with_reducible refine (known_14 _).mono ?_); rintro E w0 ⟨rfl, rfl⟩)))
    go_region_held3 (fun w' => w'.cell? ⟨g, 0, none⟩ = some (.int .i64 k) ∧ w'.cell? ⟨g, 1, none⟩ = some (.bool x) ∧ w'.cell? ⟨g, 2, none⟩ = some (.int .i64 a) ∧ w'.cell? ⟨g, 3, none⟩ = some (.int .i64 n) ∧ w'.cell? ⟨g, 4, none⟩ = some (.string s) ∧ w'.cell? ⟨g, 5, none⟩ = some (.int .i64 r) ∧ w'.cell? ⟨g, 6, none⟩ = some (.int .i64 f) ∧ w'.cell? ⟨g, 7, none⟩ = some (.int .i64 l) ∧ w'.cell? ⟨g, 8, none⟩ = some (.int .i64 k') ∧ w'.cell? ⟨g, 9, none⟩ = some (.bool x') ∧ w'.cell? ⟨g, 10, none⟩ = some (.int .i64 a') ∧ w'.cell? ⟨g, 11, none⟩ = some (.int .i64 n') ∧ w'.cell? ⟨g, 12, none⟩ = some (.string s') ∧ w'.cell? ⟨g, 13, none⟩ = some (.int .i64 r') ∧ w'.cell? ⟨g, 14, none⟩ = some (.int .i64 f') ∧ w'.cell? ⟨g, 15, none⟩ = some (.int .i64 l')) (first | (with_reducible exact ⟨c0, c1, c2, c3, c4, c5, c6, c7, c8, c9, c10, c11, c12, c13, c14, c15⟩) | go_keep) (first
      | (go_at_call 17; ((with_reducible refine (two_14 k x a n s r f l k' x' a' n' s' r' f' l' _ _ _ _ HR.out).mono ?_); rintro E w1 ⟨rfl, hu1⟩; have k_w1 := hu1.cells.1; have f_w1 := hu1.cells.2; have z_w1 := hu1.size; (try simp at z_w1); have l0_w1 : w.heap.size < w1.heap.size := (by omega); (try clear q0 y0 q1 y1 q2 y2 q3 y3 q4 y4 q5 y5 q6 y6 q7 y7); have RZ_w1 : Row w1 (w.heap.size) #[.int .i64 0, .bool false, .int .i64 0, .int .i64 0, .string ⟨#[]⟩, .int .i64 0, .int .i64 0, .int .i64 0] := Row.up (by (repeat' (first | (with_reducible assumption) | (with_reducible refine Row.at _ _ ?_; (simp; done)) | (with_reducible refine Row.alloc ?_ _) | (with_reducible refine Row.drew ?_) | (with_reducible refine Row.drewN ?_ _) | (with_reducible refine Row.other ?_ (by first | (simp; done) | (simp; omega) | omega) _) | (with_reducible refine Row.up ?_ (by with_reducible assumption)) | (with_reducible refine Row.chg ?_ (by with_reducible assumption) (by first | (simp; done) | (simp; omega)))))) hu1; obtain ⟨q0, y0, q1, y1, q2, y2, q3, y3, q4, y4, q5, y5, q6, y6, q7, y7⟩ := zrow_out RZ_w1)))
    go_wp2
    go_ret2
    exact ⟨Or.inl ⟨rfl, w1.heap.size, by omega, rfl, by (repeat' (first | (with_reducible assumption) | (with_reducible refine Row.at _ _ ?_; (simp; done)) | (with_reducible refine Row.alloc ?_ _) | (with_reducible refine Row.drew ?_) | (with_reducible refine Row.drewN ?_ _) | (with_reducible refine Row.other ?_ (by first | (simp; done) | (simp; omega) | omega) _) | (with_reducible refine Row.up ?_ (by with_reducible assumption)) | (with_reducible refine Row.chg ?_ (by with_reducible assumption) (by first | (simp; done) | (simp; omega)))))⟩, by (repeat' (first | (with_reducible exact Up.refl _) | (with_reducible assumption) | (with_reducible refine Up.alloc ?_ _) | (with_reducible refine Up.drew ?_) | (with_reducible refine Up.drewN ?_ _) | (with_reducible refine Up.setCell ?_ ?_ _) | (with_reducible refine Up.call ?_ (by with_reducible assumption)) | go_size))⟩
  · have dz : (re == 0) = false := by simpa using z
    have HZ := Lib.hid z
    clear z
    go_enter Tryd.func10, Tryd.ntmps10
    go_wp2_with (first
      | (go_at_call 7; ((with_reducible refine (known_14 _).mono ?_); rintro E w0 ⟨rfl, rfl⟩)))
    go_region_held3 (fun w' => w'.cell? ⟨g, 0, none⟩ = some (.int .i64 k) ∧ w'.cell? ⟨g, 1, none⟩ = some (.bool x) ∧ w'.cell? ⟨g, 2, none⟩ = some (.int .i64 a) ∧ w'.cell? ⟨g, 3, none⟩ = some (.int .i64 n) ∧ w'.cell? ⟨g, 4, none⟩ = some (.string s) ∧ w'.cell? ⟨g, 5, none⟩ = some (.int .i64 r) ∧ w'.cell? ⟨g, 6, none⟩ = some (.int .i64 f) ∧ w'.cell? ⟨g, 7, none⟩ = some (.int .i64 l) ∧ w'.cell? ⟨g, 8, none⟩ = some (.int .i64 k') ∧ w'.cell? ⟨g, 9, none⟩ = some (.bool x') ∧ w'.cell? ⟨g, 10, none⟩ = some (.int .i64 a') ∧ w'.cell? ⟨g, 11, none⟩ = some (.int .i64 n') ∧ w'.cell? ⟨g, 12, none⟩ = some (.string s') ∧ w'.cell? ⟨g, 13, none⟩ = some (.int .i64 r') ∧ w'.cell? ⟨g, 14, none⟩ = some (.int .i64 f') ∧ w'.cell? ⟨g, 15, none⟩ = some (.int .i64 l')) (first | (with_reducible exact ⟨c0, c1, c2, c3, c4, c5, c6, c7, c8, c9, c10, c11, c12, c13, c14, c15⟩) | go_keep) (first
      | (go_at_call 17; ((with_reducible refine (two_14 k x a n s r f l k' x' a' n' s' r' f' l' _ _ _ _ HR.out).mono ?_); rintro E w1 ⟨rfl, hu1⟩; have k_w1 := hu1.cells.1; have f_w1 := hu1.cells.2; have z_w1 := hu1.size; (try simp at z_w1); have l0_w1 : w.heap.size < w1.heap.size := (by omega); (try clear q0 y0 q1 y1 q2 y2 q3 y3 q4 y4 q5 y5 q6 y6 q7 y7); have RZ_w1 : Row w1 (w.heap.size) #[.int .i64 0, .bool false, .int .i64 0, .int .i64 0, .string ⟨#[]⟩, .int .i64 0, .int .i64 0, .int .i64 0] := Row.up (by (repeat' (first | (with_reducible assumption) | (with_reducible refine Row.at _ _ ?_; (simp; done)) | (with_reducible refine Row.alloc ?_ _) | (with_reducible refine Row.drew ?_) | (with_reducible refine Row.drewN ?_ _) | (with_reducible refine Row.other ?_ (by first | (simp; done) | (simp; omega) | omega) _) | (with_reducible refine Row.up ?_ (by with_reducible assumption)) | (with_reducible refine Row.chg ?_ (by with_reducible assumption) (by first | (simp; done) | (simp; omega)))))) hu1; obtain ⟨q0, y0, q1, y1, q2, y2, q3, y3, q4, y4, q5, y5, q6, y6, q7, y7⟩ := zrow_out RZ_w1)))
    go_wp2
    go_ret2
    exact ⟨Or.inr ⟨HZ.out, rfl⟩, by (repeat' (first | (with_reducible exact Up.refl _) | (with_reducible assumption) | (with_reducible refine Up.alloc ?_ _) | (with_reducible refine Up.drew ?_) | (with_reducible refine Up.drewN ?_ _) | (with_reducible refine Up.setCell ?_ ?_ _) | (with_reducible refine Up.call ?_ (by with_reducible assumption)) | go_size))⟩

set_option maxHeartbeats 1000000 in
theorem do_15 (k : Int) (x : Bool) (a n : Int) (s : ByteArray) (r f l : Int) (k' : Int) (x' : Bool) (a' n' : Int) (s' : ByteArray) (r' f' l' : Int) (g c : Nat) (w : World) (R : Cs w g #[.int .i64 k, .bool x, .int .i64 a, .int .i64 n, .string s, .int .i64 r, .int .i64 f, .int .i64 l, .int .i64 k', .bool x', .int .i64 a', .int .i64 n', .string s', .int .i64 r', .int .i64 f', .int .i64 l']) (hg : g < w.heap.size) (rk rn re : Int) (hR : bin 15 k n k' n' = (rk, rn, re)) :
    Calls Tryd.prog 10 #[.string ⟨#[109, 111, 100]⟩, .slice (some ⟨g, 0, none⟩) 2 c] w fun E w' => Gives w rk rn re E w' ∧ Up w w' := by
  have HR := Lib.hid hR
  have hg1 : g < w.heap.size + 1 := by omega
  have hgn : ¬ w.heap.size = g := by omega
  have c0 := R 0 _ rfl
  have c1 := R 1 _ rfl
  have c2 := R 2 _ rfl
  have c3 := R 3 _ rfl
  have c4 := R 4 _ rfl
  have c5 := R 5 _ rfl
  have c6 := R 6 _ rfl
  have c7 := R 7 _ rfl
  have c8 := R 8 _ rfl
  have c9 := R 9 _ rfl
  have c10 := R 10 _ rfl
  have c11 := R 11 _ rfl
  have c12 := R 12 _ rfl
  have c13 := R 13 _ rfl
  have c14 := R 14 _ rfl
  have c15 := R 15 _ rfl
  clear R hR
  by_cases z : re = 0
  · subst z
    go_enter Tryd.func10, Tryd.ntmps10
    go_wp2_with (first
      | (go_at_call 7; ((with_reducible refine (known_15 _).mono ?_); rintro E w0 ⟨rfl, rfl⟩)))
    go_region_held3 (fun w' => w'.cell? ⟨g, 0, none⟩ = some (.int .i64 k) ∧ w'.cell? ⟨g, 1, none⟩ = some (.bool x) ∧ w'.cell? ⟨g, 2, none⟩ = some (.int .i64 a) ∧ w'.cell? ⟨g, 3, none⟩ = some (.int .i64 n) ∧ w'.cell? ⟨g, 4, none⟩ = some (.string s) ∧ w'.cell? ⟨g, 5, none⟩ = some (.int .i64 r) ∧ w'.cell? ⟨g, 6, none⟩ = some (.int .i64 f) ∧ w'.cell? ⟨g, 7, none⟩ = some (.int .i64 l) ∧ w'.cell? ⟨g, 8, none⟩ = some (.int .i64 k') ∧ w'.cell? ⟨g, 9, none⟩ = some (.bool x') ∧ w'.cell? ⟨g, 10, none⟩ = some (.int .i64 a') ∧ w'.cell? ⟨g, 11, none⟩ = some (.int .i64 n') ∧ w'.cell? ⟨g, 12, none⟩ = some (.string s') ∧ w'.cell? ⟨g, 13, none⟩ = some (.int .i64 r') ∧ w'.cell? ⟨g, 14, none⟩ = some (.int .i64 f') ∧ w'.cell? ⟨g, 15, none⟩ = some (.int .i64 l')) (first | (with_reducible exact ⟨c0, c1, c2, c3, c4, c5, c6, c7, c8, c9, c10, c11, c12, c13, c14, c15⟩) | go_keep) (first
      | (go_at_call 17; ((with_reducible refine (two_15 k x a n s r f l k' x' a' n' s' r' f' l' _ _ _ _ HR.out).mono ?_); rintro E w1 ⟨rfl, hu1⟩; have k_w1 := hu1.cells.1; have f_w1 := hu1.cells.2; have z_w1 := hu1.size; (try simp at z_w1); have l0_w1 : w.heap.size < w1.heap.size := (by omega); (try clear q0 y0 q1 y1 q2 y2 q3 y3 q4 y4 q5 y5 q6 y6 q7 y7); have RZ_w1 : Row w1 (w.heap.size) #[.int .i64 0, .bool false, .int .i64 0, .int .i64 0, .string ⟨#[]⟩, .int .i64 0, .int .i64 0, .int .i64 0] := Row.up (by (repeat' (first | (with_reducible assumption) | (with_reducible refine Row.at _ _ ?_; (simp; done)) | (with_reducible refine Row.alloc ?_ _) | (with_reducible refine Row.drew ?_) | (with_reducible refine Row.drewN ?_ _) | (with_reducible refine Row.other ?_ (by first | (simp; done) | (simp; omega) | omega) _) | (with_reducible refine Row.up ?_ (by with_reducible assumption)) | (with_reducible refine Row.chg ?_ (by with_reducible assumption) (by first | (simp; done) | (simp; omega)))))) hu1; obtain ⟨q0, y0, q1, y1, q2, y2, q3, y3, q4, y4, q5, y5, q6, y6, q7, y7⟩ := zrow_out RZ_w1)))
    go_wp2
    go_ret2
    exact ⟨Or.inl ⟨rfl, w1.heap.size, by omega, rfl, by (repeat' (first | (with_reducible assumption) | (with_reducible refine Row.at _ _ ?_; (simp; done)) | (with_reducible refine Row.alloc ?_ _) | (with_reducible refine Row.drew ?_) | (with_reducible refine Row.drewN ?_ _) | (with_reducible refine Row.other ?_ (by first | (simp; done) | (simp; omega) | omega) _) | (with_reducible refine Row.up ?_ (by with_reducible assumption)) | (with_reducible refine Row.chg ?_ (by with_reducible assumption) (by first | (simp; done) | (simp; omega)))))⟩, by (repeat' (first | (with_reducible exact Up.refl _) | (with_reducible assumption) | (with_reducible refine Up.alloc ?_ _) | (with_reducible refine Up.drew ?_) | (with_reducible refine Up.drewN ?_ _) | (with_reducible refine Up.setCell ?_ ?_ _) | (with_reducible refine Up.call ?_ (by with_reducible assumption)) | go_size))⟩
  · have dz : (re == 0) = false := by simpa using z
    have HZ := Lib.hid z
    clear z
    go_enter Tryd.func10, Tryd.ntmps10
    go_wp2_with (first
      | (go_at_call 7; ((with_reducible refine (known_15 _).mono ?_); rintro E w0 ⟨rfl, rfl⟩)))
    go_region_held3 (fun w' => w'.cell? ⟨g, 0, none⟩ = some (.int .i64 k) ∧ w'.cell? ⟨g, 1, none⟩ = some (.bool x) ∧ w'.cell? ⟨g, 2, none⟩ = some (.int .i64 a) ∧ w'.cell? ⟨g, 3, none⟩ = some (.int .i64 n) ∧ w'.cell? ⟨g, 4, none⟩ = some (.string s) ∧ w'.cell? ⟨g, 5, none⟩ = some (.int .i64 r) ∧ w'.cell? ⟨g, 6, none⟩ = some (.int .i64 f) ∧ w'.cell? ⟨g, 7, none⟩ = some (.int .i64 l) ∧ w'.cell? ⟨g, 8, none⟩ = some (.int .i64 k') ∧ w'.cell? ⟨g, 9, none⟩ = some (.bool x') ∧ w'.cell? ⟨g, 10, none⟩ = some (.int .i64 a') ∧ w'.cell? ⟨g, 11, none⟩ = some (.int .i64 n') ∧ w'.cell? ⟨g, 12, none⟩ = some (.string s') ∧ w'.cell? ⟨g, 13, none⟩ = some (.int .i64 r') ∧ w'.cell? ⟨g, 14, none⟩ = some (.int .i64 f') ∧ w'.cell? ⟨g, 15, none⟩ = some (.int .i64 l')) (first | (with_reducible exact ⟨c0, c1, c2, c3, c4, c5, c6, c7, c8, c9, c10, c11, c12, c13, c14, c15⟩) | go_keep) (first
      | (go_at_call 17; ((with_reducible refine (two_15 k x a n s r f l k' x' a' n' s' r' f' l' _ _ _ _ HR.out).mono ?_); rintro E w1 ⟨rfl, hu1⟩; have k_w1 := hu1.cells.1; have f_w1 := hu1.cells.2; have z_w1 := hu1.size; (try simp at z_w1); have l0_w1 : w.heap.size < w1.heap.size := (by omega); (try clear q0 y0 q1 y1 q2 y2 q3 y3 q4 y4 q5 y5 q6 y6 q7 y7); have RZ_w1 : Row w1 (w.heap.size) #[.int .i64 0, .bool false, .int .i64 0, .int .i64 0, .string ⟨#[]⟩, .int .i64 0, .int .i64 0, .int .i64 0] := Row.up (by (repeat' (first | (with_reducible assumption) | (with_reducible refine Row.at _ _ ?_; (simp; done)) | (with_reducible refine Row.alloc ?_ _) | (with_reducible refine Row.drew ?_) | (with_reducible refine Row.drewN ?_ _) | (with_reducible refine Row.other ?_ (by first | (simp; done) | (simp; omega) | omega) _) | (with_reducible refine Row.up ?_ (by with_reducible assumption)) | (with_reducible refine Row.chg ?_ (by with_reducible assumption) (by first | (simp; done) | (simp; omega)))))) hu1; obtain ⟨q0, y0, q1, y1, q2, y2, q3, y3, q4, y4, q5, y5, q6, y6, q7, y7⟩ := zrow_out RZ_w1)))
    go_wp2
    go_ret2
    exact ⟨Or.inr ⟨HZ.out, rfl⟩, by (repeat' (first | (with_reducible exact Up.refl _) | (with_reducible assumption) | (with_reducible refine Up.alloc ?_ _) | (with_reducible refine Up.drew ?_) | (with_reducible refine Up.drewN ?_ _) | (with_reducible refine Up.setCell ?_ ?_ _) | (with_reducible refine Up.call ?_ (by with_reducible assumption)) | go_size))⟩

set_option maxHeartbeats 1000000 in
theorem do_16 (k : Int) (x : Bool) (a n : Int) (s : ByteArray) (r f l : Int) (k' : Int) (x' : Bool) (a' n' : Int) (s' : ByteArray) (r' f' l' : Int) (g c : Nat) (w : World) (R : Cs w g #[.int .i64 k, .bool x, .int .i64 a, .int .i64 n, .string s, .int .i64 r, .int .i64 f, .int .i64 l, .int .i64 k', .bool x', .int .i64 a', .int .i64 n', .string s', .int .i64 r', .int .i64 f', .int .i64 l']) (hg : g < w.heap.size) (rk rn re : Int) (hR : bin 16 k n k' n' = (rk, rn, re)) :
    Calls Tryd.prog 10 #[.string ⟨#[97, 110, 100]⟩, .slice (some ⟨g, 0, none⟩) 2 c] w fun E w' => Gives w rk rn re E w' ∧ Up w w' := by
  have HR := Lib.hid hR
  have hg1 : g < w.heap.size + 1 := by omega
  have hgn : ¬ w.heap.size = g := by omega
  have c0 := R 0 _ rfl
  have c1 := R 1 _ rfl
  have c2 := R 2 _ rfl
  have c3 := R 3 _ rfl
  have c4 := R 4 _ rfl
  have c5 := R 5 _ rfl
  have c6 := R 6 _ rfl
  have c7 := R 7 _ rfl
  have c8 := R 8 _ rfl
  have c9 := R 9 _ rfl
  have c10 := R 10 _ rfl
  have c11 := R 11 _ rfl
  have c12 := R 12 _ rfl
  have c13 := R 13 _ rfl
  have c14 := R 14 _ rfl
  have c15 := R 15 _ rfl
  clear R hR
  by_cases z : re = 0
  · subst z
    go_enter Tryd.func10, Tryd.ntmps10
    go_wp2_with (first
      | (go_at_call 7; ((with_reducible refine (known_16 _).mono ?_); rintro E w0 ⟨rfl, rfl⟩)))
    go_region_held3 (fun w' => w'.cell? ⟨g, 0, none⟩ = some (.int .i64 k) ∧ w'.cell? ⟨g, 1, none⟩ = some (.bool x) ∧ w'.cell? ⟨g, 2, none⟩ = some (.int .i64 a) ∧ w'.cell? ⟨g, 3, none⟩ = some (.int .i64 n) ∧ w'.cell? ⟨g, 4, none⟩ = some (.string s) ∧ w'.cell? ⟨g, 5, none⟩ = some (.int .i64 r) ∧ w'.cell? ⟨g, 6, none⟩ = some (.int .i64 f) ∧ w'.cell? ⟨g, 7, none⟩ = some (.int .i64 l) ∧ w'.cell? ⟨g, 8, none⟩ = some (.int .i64 k') ∧ w'.cell? ⟨g, 9, none⟩ = some (.bool x') ∧ w'.cell? ⟨g, 10, none⟩ = some (.int .i64 a') ∧ w'.cell? ⟨g, 11, none⟩ = some (.int .i64 n') ∧ w'.cell? ⟨g, 12, none⟩ = some (.string s') ∧ w'.cell? ⟨g, 13, none⟩ = some (.int .i64 r') ∧ w'.cell? ⟨g, 14, none⟩ = some (.int .i64 f') ∧ w'.cell? ⟨g, 15, none⟩ = some (.int .i64 l')) (first | (with_reducible exact ⟨c0, c1, c2, c3, c4, c5, c6, c7, c8, c9, c10, c11, c12, c13, c14, c15⟩) | go_keep) (first
      | (go_at_call 17; ((with_reducible refine (two_16 k x a n s r f l k' x' a' n' s' r' f' l' _ _ _ _ HR.out).mono ?_); rintro E w1 ⟨rfl, hu1⟩; have k_w1 := hu1.cells.1; have f_w1 := hu1.cells.2; have z_w1 := hu1.size; (try simp at z_w1); have l0_w1 : w.heap.size < w1.heap.size := (by omega); (try clear q0 y0 q1 y1 q2 y2 q3 y3 q4 y4 q5 y5 q6 y6 q7 y7); have RZ_w1 : Row w1 (w.heap.size) #[.int .i64 0, .bool false, .int .i64 0, .int .i64 0, .string ⟨#[]⟩, .int .i64 0, .int .i64 0, .int .i64 0] := Row.up (by (repeat' (first | (with_reducible assumption) | (with_reducible refine Row.at _ _ ?_; (simp; done)) | (with_reducible refine Row.alloc ?_ _) | (with_reducible refine Row.drew ?_) | (with_reducible refine Row.drewN ?_ _) | (with_reducible refine Row.other ?_ (by first | (simp; done) | (simp; omega) | omega) _) | (with_reducible refine Row.up ?_ (by with_reducible assumption)) | (with_reducible refine Row.chg ?_ (by with_reducible assumption) (by first | (simp; done) | (simp; omega)))))) hu1; obtain ⟨q0, y0, q1, y1, q2, y2, q3, y3, q4, y4, q5, y5, q6, y6, q7, y7⟩ := zrow_out RZ_w1)))
    go_wp2
    go_ret2
    exact ⟨Or.inl ⟨rfl, w1.heap.size, by omega, rfl, by (repeat' (first | (with_reducible assumption) | (with_reducible refine Row.at _ _ ?_; (simp; done)) | (with_reducible refine Row.alloc ?_ _) | (with_reducible refine Row.drew ?_) | (with_reducible refine Row.drewN ?_ _) | (with_reducible refine Row.other ?_ (by first | (simp; done) | (simp; omega) | omega) _) | (with_reducible refine Row.up ?_ (by with_reducible assumption)) | (with_reducible refine Row.chg ?_ (by with_reducible assumption) (by first | (simp; done) | (simp; omega)))))⟩, by (repeat' (first | (with_reducible exact Up.refl _) | (with_reducible assumption) | (with_reducible refine Up.alloc ?_ _) | (with_reducible refine Up.drew ?_) | (with_reducible refine Up.drewN ?_ _) | (with_reducible refine Up.setCell ?_ ?_ _) | (with_reducible refine Up.call ?_ (by with_reducible assumption)) | go_size))⟩
  · have dz : (re == 0) = false := by simpa using z
    have HZ := Lib.hid z
    clear z
    go_enter Tryd.func10, Tryd.ntmps10
    go_wp2_with (first
      | (go_at_call 7; ((with_reducible refine (known_16 _).mono ?_); rintro E w0 ⟨rfl, rfl⟩)))
    go_region_held3 (fun w' => w'.cell? ⟨g, 0, none⟩ = some (.int .i64 k) ∧ w'.cell? ⟨g, 1, none⟩ = some (.bool x) ∧ w'.cell? ⟨g, 2, none⟩ = some (.int .i64 a) ∧ w'.cell? ⟨g, 3, none⟩ = some (.int .i64 n) ∧ w'.cell? ⟨g, 4, none⟩ = some (.string s) ∧ w'.cell? ⟨g, 5, none⟩ = some (.int .i64 r) ∧ w'.cell? ⟨g, 6, none⟩ = some (.int .i64 f) ∧ w'.cell? ⟨g, 7, none⟩ = some (.int .i64 l) ∧ w'.cell? ⟨g, 8, none⟩ = some (.int .i64 k') ∧ w'.cell? ⟨g, 9, none⟩ = some (.bool x') ∧ w'.cell? ⟨g, 10, none⟩ = some (.int .i64 a') ∧ w'.cell? ⟨g, 11, none⟩ = some (.int .i64 n') ∧ w'.cell? ⟨g, 12, none⟩ = some (.string s') ∧ w'.cell? ⟨g, 13, none⟩ = some (.int .i64 r') ∧ w'.cell? ⟨g, 14, none⟩ = some (.int .i64 f') ∧ w'.cell? ⟨g, 15, none⟩ = some (.int .i64 l')) (first | (with_reducible exact ⟨c0, c1, c2, c3, c4, c5, c6, c7, c8, c9, c10, c11, c12, c13, c14, c15⟩) | go_keep) (first
      | (go_at_call 17; ((with_reducible refine (two_16 k x a n s r f l k' x' a' n' s' r' f' l' _ _ _ _ HR.out).mono ?_); rintro E w1 ⟨rfl, hu1⟩; have k_w1 := hu1.cells.1; have f_w1 := hu1.cells.2; have z_w1 := hu1.size; (try simp at z_w1); have l0_w1 : w.heap.size < w1.heap.size := (by omega); (try clear q0 y0 q1 y1 q2 y2 q3 y3 q4 y4 q5 y5 q6 y6 q7 y7); have RZ_w1 : Row w1 (w.heap.size) #[.int .i64 0, .bool false, .int .i64 0, .int .i64 0, .string ⟨#[]⟩, .int .i64 0, .int .i64 0, .int .i64 0] := Row.up (by (repeat' (first | (with_reducible assumption) | (with_reducible refine Row.at _ _ ?_; (simp; done)) | (with_reducible refine Row.alloc ?_ _) | (with_reducible refine Row.drew ?_) | (with_reducible refine Row.drewN ?_ _) | (with_reducible refine Row.other ?_ (by first | (simp; done) | (simp; omega) | omega) _) | (with_reducible refine Row.up ?_ (by with_reducible assumption)) | (with_reducible refine Row.chg ?_ (by with_reducible assumption) (by first | (simp; done) | (simp; omega)))))) hu1; obtain ⟨q0, y0, q1, y1, q2, y2, q3, y3, q4, y4, q5, y5, q6, y6, q7, y7⟩ := zrow_out RZ_w1)))
    go_wp2
    go_ret2
    exact ⟨Or.inr ⟨HZ.out, rfl⟩, by (repeat' (first | (with_reducible exact Up.refl _) | (with_reducible assumption) | (with_reducible refine Up.alloc ?_ _) | (with_reducible refine Up.drew ?_) | (with_reducible refine Up.drewN ?_ _) | (with_reducible refine Up.setCell ?_ ?_ _) | (with_reducible refine Up.call ?_ (by with_reducible assumption)) | go_size))⟩

set_option maxHeartbeats 1000000 in
theorem do_17 (k : Int) (x : Bool) (a n : Int) (s : ByteArray) (r f l : Int) (k' : Int) (x' : Bool) (a' n' : Int) (s' : ByteArray) (r' f' l' : Int) (g c : Nat) (w : World) (R : Cs w g #[.int .i64 k, .bool x, .int .i64 a, .int .i64 n, .string s, .int .i64 r, .int .i64 f, .int .i64 l, .int .i64 k', .bool x', .int .i64 a', .int .i64 n', .string s', .int .i64 r', .int .i64 f', .int .i64 l']) (hg : g < w.heap.size) (rk rn re : Int) (hR : bin 17 k n k' n' = (rk, rn, re)) :
    Calls Tryd.prog 10 #[.string ⟨#[111, 114]⟩, .slice (some ⟨g, 0, none⟩) 2 c] w fun E w' => Gives w rk rn re E w' ∧ Up w w' := by
  have HR := Lib.hid hR
  have hg1 : g < w.heap.size + 1 := by omega
  have hgn : ¬ w.heap.size = g := by omega
  have c0 := R 0 _ rfl
  have c1 := R 1 _ rfl
  have c2 := R 2 _ rfl
  have c3 := R 3 _ rfl
  have c4 := R 4 _ rfl
  have c5 := R 5 _ rfl
  have c6 := R 6 _ rfl
  have c7 := R 7 _ rfl
  have c8 := R 8 _ rfl
  have c9 := R 9 _ rfl
  have c10 := R 10 _ rfl
  have c11 := R 11 _ rfl
  have c12 := R 12 _ rfl
  have c13 := R 13 _ rfl
  have c14 := R 14 _ rfl
  have c15 := R 15 _ rfl
  clear R hR
  by_cases z : re = 0
  · subst z
    go_enter Tryd.func10, Tryd.ntmps10
    go_wp2_with (first
      | (go_at_call 7; ((with_reducible refine (known_17 _).mono ?_); rintro E w0 ⟨rfl, rfl⟩)))
    go_region_held3 (fun w' => w'.cell? ⟨g, 0, none⟩ = some (.int .i64 k) ∧ w'.cell? ⟨g, 1, none⟩ = some (.bool x) ∧ w'.cell? ⟨g, 2, none⟩ = some (.int .i64 a) ∧ w'.cell? ⟨g, 3, none⟩ = some (.int .i64 n) ∧ w'.cell? ⟨g, 4, none⟩ = some (.string s) ∧ w'.cell? ⟨g, 5, none⟩ = some (.int .i64 r) ∧ w'.cell? ⟨g, 6, none⟩ = some (.int .i64 f) ∧ w'.cell? ⟨g, 7, none⟩ = some (.int .i64 l) ∧ w'.cell? ⟨g, 8, none⟩ = some (.int .i64 k') ∧ w'.cell? ⟨g, 9, none⟩ = some (.bool x') ∧ w'.cell? ⟨g, 10, none⟩ = some (.int .i64 a') ∧ w'.cell? ⟨g, 11, none⟩ = some (.int .i64 n') ∧ w'.cell? ⟨g, 12, none⟩ = some (.string s') ∧ w'.cell? ⟨g, 13, none⟩ = some (.int .i64 r') ∧ w'.cell? ⟨g, 14, none⟩ = some (.int .i64 f') ∧ w'.cell? ⟨g, 15, none⟩ = some (.int .i64 l')) (first | (with_reducible exact ⟨c0, c1, c2, c3, c4, c5, c6, c7, c8, c9, c10, c11, c12, c13, c14, c15⟩) | go_keep) (first
      | (go_at_call 17; ((with_reducible refine (two_17 k x a n s r f l k' x' a' n' s' r' f' l' _ _ _ _ HR.out).mono ?_); rintro E w1 ⟨rfl, hu1⟩; have k_w1 := hu1.cells.1; have f_w1 := hu1.cells.2; have z_w1 := hu1.size; (try simp at z_w1); have l0_w1 : w.heap.size < w1.heap.size := (by omega); (try clear q0 y0 q1 y1 q2 y2 q3 y3 q4 y4 q5 y5 q6 y6 q7 y7); have RZ_w1 : Row w1 (w.heap.size) #[.int .i64 0, .bool false, .int .i64 0, .int .i64 0, .string ⟨#[]⟩, .int .i64 0, .int .i64 0, .int .i64 0] := Row.up (by (repeat' (first | (with_reducible assumption) | (with_reducible refine Row.at _ _ ?_; (simp; done)) | (with_reducible refine Row.alloc ?_ _) | (with_reducible refine Row.drew ?_) | (with_reducible refine Row.drewN ?_ _) | (with_reducible refine Row.other ?_ (by first | (simp; done) | (simp; omega) | omega) _) | (with_reducible refine Row.up ?_ (by with_reducible assumption)) | (with_reducible refine Row.chg ?_ (by with_reducible assumption) (by first | (simp; done) | (simp; omega)))))) hu1; obtain ⟨q0, y0, q1, y1, q2, y2, q3, y3, q4, y4, q5, y5, q6, y6, q7, y7⟩ := zrow_out RZ_w1)))
    go_wp2
    go_ret2
    exact ⟨Or.inl ⟨rfl, w1.heap.size, by omega, rfl, by (repeat' (first | (with_reducible assumption) | (with_reducible refine Row.at _ _ ?_; (simp; done)) | (with_reducible refine Row.alloc ?_ _) | (with_reducible refine Row.drew ?_) | (with_reducible refine Row.drewN ?_ _) | (with_reducible refine Row.other ?_ (by first | (simp; done) | (simp; omega) | omega) _) | (with_reducible refine Row.up ?_ (by with_reducible assumption)) | (with_reducible refine Row.chg ?_ (by with_reducible assumption) (by first | (simp; done) | (simp; omega)))))⟩, by (repeat' (first | (with_reducible exact Up.refl _) | (with_reducible assumption) | (with_reducible refine Up.alloc ?_ _) | (with_reducible refine Up.drew ?_) | (with_reducible refine Up.drewN ?_ _) | (with_reducible refine Up.setCell ?_ ?_ _) | (with_reducible refine Up.call ?_ (by with_reducible assumption)) | go_size))⟩
  · have dz : (re == 0) = false := by simpa using z
    have HZ := Lib.hid z
    clear z
    go_enter Tryd.func10, Tryd.ntmps10
    go_wp2_with (first
      | (go_at_call 7; ((with_reducible refine (known_17 _).mono ?_); rintro E w0 ⟨rfl, rfl⟩)))
    go_region_held3 (fun w' => w'.cell? ⟨g, 0, none⟩ = some (.int .i64 k) ∧ w'.cell? ⟨g, 1, none⟩ = some (.bool x) ∧ w'.cell? ⟨g, 2, none⟩ = some (.int .i64 a) ∧ w'.cell? ⟨g, 3, none⟩ = some (.int .i64 n) ∧ w'.cell? ⟨g, 4, none⟩ = some (.string s) ∧ w'.cell? ⟨g, 5, none⟩ = some (.int .i64 r) ∧ w'.cell? ⟨g, 6, none⟩ = some (.int .i64 f) ∧ w'.cell? ⟨g, 7, none⟩ = some (.int .i64 l) ∧ w'.cell? ⟨g, 8, none⟩ = some (.int .i64 k') ∧ w'.cell? ⟨g, 9, none⟩ = some (.bool x') ∧ w'.cell? ⟨g, 10, none⟩ = some (.int .i64 a') ∧ w'.cell? ⟨g, 11, none⟩ = some (.int .i64 n') ∧ w'.cell? ⟨g, 12, none⟩ = some (.string s') ∧ w'.cell? ⟨g, 13, none⟩ = some (.int .i64 r') ∧ w'.cell? ⟨g, 14, none⟩ = some (.int .i64 f') ∧ w'.cell? ⟨g, 15, none⟩ = some (.int .i64 l')) (first | (with_reducible exact ⟨c0, c1, c2, c3, c4, c5, c6, c7, c8, c9, c10, c11, c12, c13, c14, c15⟩) | go_keep) (first
      | (go_at_call 17; ((with_reducible refine (two_17 k x a n s r f l k' x' a' n' s' r' f' l' _ _ _ _ HR.out).mono ?_); rintro E w1 ⟨rfl, hu1⟩; have k_w1 := hu1.cells.1; have f_w1 := hu1.cells.2; have z_w1 := hu1.size; (try simp at z_w1); have l0_w1 : w.heap.size < w1.heap.size := (by omega); (try clear q0 y0 q1 y1 q2 y2 q3 y3 q4 y4 q5 y5 q6 y6 q7 y7); have RZ_w1 : Row w1 (w.heap.size) #[.int .i64 0, .bool false, .int .i64 0, .int .i64 0, .string ⟨#[]⟩, .int .i64 0, .int .i64 0, .int .i64 0] := Row.up (by (repeat' (first | (with_reducible assumption) | (with_reducible refine Row.at _ _ ?_; (simp; done)) | (with_reducible refine Row.alloc ?_ _) | (with_reducible refine Row.drew ?_) | (with_reducible refine Row.drewN ?_ _) | (with_reducible refine Row.other ?_ (by first | (simp; done) | (simp; omega) | omega) _) | (with_reducible refine Row.up ?_ (by with_reducible assumption)) | (with_reducible refine Row.chg ?_ (by with_reducible assumption) (by first | (simp; done) | (simp; omega)))))) hu1; obtain ⟨q0, y0, q1, y1, q2, y2, q3, y3, q4, y4, q5, y5, q6, y6, q7, y7⟩ := zrow_out RZ_w1)))
    go_wp2
    go_ret2
    exact ⟨Or.inr ⟨HZ.out, rfl⟩, by (repeat' (first | (with_reducible exact Up.refl _) | (with_reducible assumption) | (with_reducible refine Up.alloc ?_ _) | (with_reducible refine Up.drew ?_) | (with_reducible refine Up.drewN ?_ _) | (with_reducible refine Up.setCell ?_ ?_ _) | (with_reducible refine Up.call ?_ (by with_reducible assumption)) | go_size))⟩

set_option maxHeartbeats 1000000 in
theorem do_18 (k : Int) (x : Bool) (a n : Int) (s : ByteArray) (r f l : Int) (k' : Int) (x' : Bool) (a' n' : Int) (s' : ByteArray) (r' f' l' : Int) (g c : Nat) (w : World) (R : Cs w g #[.int .i64 k, .bool x, .int .i64 a, .int .i64 n, .string s, .int .i64 r, .int .i64 f, .int .i64 l, .int .i64 k', .bool x', .int .i64 a', .int .i64 n', .string s', .int .i64 r', .int .i64 f', .int .i64 l']) (hg : g < w.heap.size) (rk rn re : Int) (hR : bin 18 k n k' n' = (rk, rn, re)) :
    Calls Tryd.prog 10 #[.string ⟨#[120, 111, 114]⟩, .slice (some ⟨g, 0, none⟩) 2 c] w fun E w' => Gives w rk rn re E w' ∧ Up w w' := by
  have HR := Lib.hid hR
  have hg1 : g < w.heap.size + 1 := by omega
  have hgn : ¬ w.heap.size = g := by omega
  have c0 := R 0 _ rfl
  have c1 := R 1 _ rfl
  have c2 := R 2 _ rfl
  have c3 := R 3 _ rfl
  have c4 := R 4 _ rfl
  have c5 := R 5 _ rfl
  have c6 := R 6 _ rfl
  have c7 := R 7 _ rfl
  have c8 := R 8 _ rfl
  have c9 := R 9 _ rfl
  have c10 := R 10 _ rfl
  have c11 := R 11 _ rfl
  have c12 := R 12 _ rfl
  have c13 := R 13 _ rfl
  have c14 := R 14 _ rfl
  have c15 := R 15 _ rfl
  clear R hR
  by_cases z : re = 0
  · subst z
    go_enter Tryd.func10, Tryd.ntmps10
    go_wp2_with (first
      | (go_at_call 7; ((with_reducible refine (known_18 _).mono ?_); rintro E w0 ⟨rfl, rfl⟩)))
    go_region_held3 (fun w' => w'.cell? ⟨g, 0, none⟩ = some (.int .i64 k) ∧ w'.cell? ⟨g, 1, none⟩ = some (.bool x) ∧ w'.cell? ⟨g, 2, none⟩ = some (.int .i64 a) ∧ w'.cell? ⟨g, 3, none⟩ = some (.int .i64 n) ∧ w'.cell? ⟨g, 4, none⟩ = some (.string s) ∧ w'.cell? ⟨g, 5, none⟩ = some (.int .i64 r) ∧ w'.cell? ⟨g, 6, none⟩ = some (.int .i64 f) ∧ w'.cell? ⟨g, 7, none⟩ = some (.int .i64 l) ∧ w'.cell? ⟨g, 8, none⟩ = some (.int .i64 k') ∧ w'.cell? ⟨g, 9, none⟩ = some (.bool x') ∧ w'.cell? ⟨g, 10, none⟩ = some (.int .i64 a') ∧ w'.cell? ⟨g, 11, none⟩ = some (.int .i64 n') ∧ w'.cell? ⟨g, 12, none⟩ = some (.string s') ∧ w'.cell? ⟨g, 13, none⟩ = some (.int .i64 r') ∧ w'.cell? ⟨g, 14, none⟩ = some (.int .i64 f') ∧ w'.cell? ⟨g, 15, none⟩ = some (.int .i64 l')) (first | (with_reducible exact ⟨c0, c1, c2, c3, c4, c5, c6, c7, c8, c9, c10, c11, c12, c13, c14, c15⟩) | go_keep) (first
      | (go_at_call 17; ((with_reducible refine (two_18 k x a n s r f l k' x' a' n' s' r' f' l' _ _ _ _ HR.out).mono ?_); rintro E w1 ⟨rfl, hu1⟩; have k_w1 := hu1.cells.1; have f_w1 := hu1.cells.2; have z_w1 := hu1.size; (try simp at z_w1); have l0_w1 : w.heap.size < w1.heap.size := (by omega); (try clear q0 y0 q1 y1 q2 y2 q3 y3 q4 y4 q5 y5 q6 y6 q7 y7); have RZ_w1 : Row w1 (w.heap.size) #[.int .i64 0, .bool false, .int .i64 0, .int .i64 0, .string ⟨#[]⟩, .int .i64 0, .int .i64 0, .int .i64 0] := Row.up (by (repeat' (first | (with_reducible assumption) | (with_reducible refine Row.at _ _ ?_; (simp; done)) | (with_reducible refine Row.alloc ?_ _) | (with_reducible refine Row.drew ?_) | (with_reducible refine Row.drewN ?_ _) | (with_reducible refine Row.other ?_ (by first | (simp; done) | (simp; omega) | omega) _) | (with_reducible refine Row.up ?_ (by with_reducible assumption)) | (with_reducible refine Row.chg ?_ (by with_reducible assumption) (by first | (simp; done) | (simp; omega)))))) hu1; obtain ⟨q0, y0, q1, y1, q2, y2, q3, y3, q4, y4, q5, y5, q6, y6, q7, y7⟩ := zrow_out RZ_w1)))
    go_wp2
    go_ret2
    exact ⟨Or.inl ⟨rfl, w1.heap.size, by omega, rfl, by (repeat' (first | (with_reducible assumption) | (with_reducible refine Row.at _ _ ?_; (simp; done)) | (with_reducible refine Row.alloc ?_ _) | (with_reducible refine Row.drew ?_) | (with_reducible refine Row.drewN ?_ _) | (with_reducible refine Row.other ?_ (by first | (simp; done) | (simp; omega) | omega) _) | (with_reducible refine Row.up ?_ (by with_reducible assumption)) | (with_reducible refine Row.chg ?_ (by with_reducible assumption) (by first | (simp; done) | (simp; omega)))))⟩, by (repeat' (first | (with_reducible exact Up.refl _) | (with_reducible assumption) | (with_reducible refine Up.alloc ?_ _) | (with_reducible refine Up.drew ?_) | (with_reducible refine Up.drewN ?_ _) | (with_reducible refine Up.setCell ?_ ?_ _) | (with_reducible refine Up.call ?_ (by with_reducible assumption)) | go_size))⟩
  · have dz : (re == 0) = false := by simpa using z
    have HZ := Lib.hid z
    clear z
    go_enter Tryd.func10, Tryd.ntmps10
    go_wp2_with (first
      | (go_at_call 7; ((with_reducible refine (known_18 _).mono ?_); rintro E w0 ⟨rfl, rfl⟩)))
    go_region_held3 (fun w' => w'.cell? ⟨g, 0, none⟩ = some (.int .i64 k) ∧ w'.cell? ⟨g, 1, none⟩ = some (.bool x) ∧ w'.cell? ⟨g, 2, none⟩ = some (.int .i64 a) ∧ w'.cell? ⟨g, 3, none⟩ = some (.int .i64 n) ∧ w'.cell? ⟨g, 4, none⟩ = some (.string s) ∧ w'.cell? ⟨g, 5, none⟩ = some (.int .i64 r) ∧ w'.cell? ⟨g, 6, none⟩ = some (.int .i64 f) ∧ w'.cell? ⟨g, 7, none⟩ = some (.int .i64 l) ∧ w'.cell? ⟨g, 8, none⟩ = some (.int .i64 k') ∧ w'.cell? ⟨g, 9, none⟩ = some (.bool x') ∧ w'.cell? ⟨g, 10, none⟩ = some (.int .i64 a') ∧ w'.cell? ⟨g, 11, none⟩ = some (.int .i64 n') ∧ w'.cell? ⟨g, 12, none⟩ = some (.string s') ∧ w'.cell? ⟨g, 13, none⟩ = some (.int .i64 r') ∧ w'.cell? ⟨g, 14, none⟩ = some (.int .i64 f') ∧ w'.cell? ⟨g, 15, none⟩ = some (.int .i64 l')) (first | (with_reducible exact ⟨c0, c1, c2, c3, c4, c5, c6, c7, c8, c9, c10, c11, c12, c13, c14, c15⟩) | go_keep) (first
      | (go_at_call 17; ((with_reducible refine (two_18 k x a n s r f l k' x' a' n' s' r' f' l' _ _ _ _ HR.out).mono ?_); rintro E w1 ⟨rfl, hu1⟩; have k_w1 := hu1.cells.1; have f_w1 := hu1.cells.2; have z_w1 := hu1.size; (try simp at z_w1); have l0_w1 : w.heap.size < w1.heap.size := (by omega); (try clear q0 y0 q1 y1 q2 y2 q3 y3 q4 y4 q5 y5 q6 y6 q7 y7); have RZ_w1 : Row w1 (w.heap.size) #[.int .i64 0, .bool false, .int .i64 0, .int .i64 0, .string ⟨#[]⟩, .int .i64 0, .int .i64 0, .int .i64 0] := Row.up (by (repeat' (first | (with_reducible assumption) | (with_reducible refine Row.at _ _ ?_; (simp; done)) | (with_reducible refine Row.alloc ?_ _) | (with_reducible refine Row.drew ?_) | (with_reducible refine Row.drewN ?_ _) | (with_reducible refine Row.other ?_ (by first | (simp; done) | (simp; omega) | omega) _) | (with_reducible refine Row.up ?_ (by with_reducible assumption)) | (with_reducible refine Row.chg ?_ (by with_reducible assumption) (by first | (simp; done) | (simp; omega)))))) hu1; obtain ⟨q0, y0, q1, y1, q2, y2, q3, y3, q4, y4, q5, y5, q6, y6, q7, y7⟩ := zrow_out RZ_w1)))
    go_wp2
    go_ret2
    exact ⟨Or.inr ⟨HZ.out, rfl⟩, by (repeat' (first | (with_reducible exact Up.refl _) | (with_reducible assumption) | (with_reducible refine Up.alloc ?_ _) | (with_reducible refine Up.drew ?_) | (with_reducible refine Up.drewN ?_ _) | (with_reducible refine Up.setCell ?_ ?_ _) | (with_reducible refine Up.call ?_ (by with_reducible assumption)) | go_size))⟩

set_option maxHeartbeats 1000000 in
theorem do_19 (k : Int) (x : Bool) (a n : Int) (s : ByteArray) (r f l : Int) (k' : Int) (x' : Bool) (a' n' : Int) (s' : ByteArray) (r' f' l' : Int) (g c : Nat) (w : World) (R : Cs w g #[.int .i64 k, .bool x, .int .i64 a, .int .i64 n, .string s, .int .i64 r, .int .i64 f, .int .i64 l, .int .i64 k', .bool x', .int .i64 a', .int .i64 n', .string s', .int .i64 r', .int .i64 f', .int .i64 l']) (hg : g < w.heap.size) (rk rn re : Int) (hR : bin 19 k n k' n' = (rk, rn, re)) :
    Calls Tryd.prog 10 #[.string ⟨#[98, 105, 116, 115, 104, 105, 102, 116]⟩, .slice (some ⟨g, 0, none⟩) 2 c] w fun E w' => Gives w rk rn re E w' ∧ Up w w' := by
  have HR := Lib.hid hR
  have hg1 : g < w.heap.size + 1 := by omega
  have hgn : ¬ w.heap.size = g := by omega
  have c0 := R 0 _ rfl
  have c1 := R 1 _ rfl
  have c2 := R 2 _ rfl
  have c3 := R 3 _ rfl
  have c4 := R 4 _ rfl
  have c5 := R 5 _ rfl
  have c6 := R 6 _ rfl
  have c7 := R 7 _ rfl
  have c8 := R 8 _ rfl
  have c9 := R 9 _ rfl
  have c10 := R 10 _ rfl
  have c11 := R 11 _ rfl
  have c12 := R 12 _ rfl
  have c13 := R 13 _ rfl
  have c14 := R 14 _ rfl
  have c15 := R 15 _ rfl
  clear R hR
  by_cases z : re = 0
  · subst z
    go_enter Tryd.func10, Tryd.ntmps10
    go_wp2_with (first
      | (go_at_call 7; ((with_reducible refine (known_19 _).mono ?_); rintro E w0 ⟨rfl, rfl⟩)))
    go_region_held3 (fun w' => w'.cell? ⟨g, 0, none⟩ = some (.int .i64 k) ∧ w'.cell? ⟨g, 1, none⟩ = some (.bool x) ∧ w'.cell? ⟨g, 2, none⟩ = some (.int .i64 a) ∧ w'.cell? ⟨g, 3, none⟩ = some (.int .i64 n) ∧ w'.cell? ⟨g, 4, none⟩ = some (.string s) ∧ w'.cell? ⟨g, 5, none⟩ = some (.int .i64 r) ∧ w'.cell? ⟨g, 6, none⟩ = some (.int .i64 f) ∧ w'.cell? ⟨g, 7, none⟩ = some (.int .i64 l) ∧ w'.cell? ⟨g, 8, none⟩ = some (.int .i64 k') ∧ w'.cell? ⟨g, 9, none⟩ = some (.bool x') ∧ w'.cell? ⟨g, 10, none⟩ = some (.int .i64 a') ∧ w'.cell? ⟨g, 11, none⟩ = some (.int .i64 n') ∧ w'.cell? ⟨g, 12, none⟩ = some (.string s') ∧ w'.cell? ⟨g, 13, none⟩ = some (.int .i64 r') ∧ w'.cell? ⟨g, 14, none⟩ = some (.int .i64 f') ∧ w'.cell? ⟨g, 15, none⟩ = some (.int .i64 l')) (first | (with_reducible exact ⟨c0, c1, c2, c3, c4, c5, c6, c7, c8, c9, c10, c11, c12, c13, c14, c15⟩) | go_keep) (first
      | (go_at_call 17; ((with_reducible refine (two_19 k x a n s r f l k' x' a' n' s' r' f' l' _ _ _ _ HR.out).mono ?_); rintro E w1 ⟨rfl, hu1⟩; have k_w1 := hu1.cells.1; have f_w1 := hu1.cells.2; have z_w1 := hu1.size; (try simp at z_w1); have l0_w1 : w.heap.size < w1.heap.size := (by omega); (try clear q0 y0 q1 y1 q2 y2 q3 y3 q4 y4 q5 y5 q6 y6 q7 y7); have RZ_w1 : Row w1 (w.heap.size) #[.int .i64 0, .bool false, .int .i64 0, .int .i64 0, .string ⟨#[]⟩, .int .i64 0, .int .i64 0, .int .i64 0] := Row.up (by (repeat' (first | (with_reducible assumption) | (with_reducible refine Row.at _ _ ?_; (simp; done)) | (with_reducible refine Row.alloc ?_ _) | (with_reducible refine Row.drew ?_) | (with_reducible refine Row.drewN ?_ _) | (with_reducible refine Row.other ?_ (by first | (simp; done) | (simp; omega) | omega) _) | (with_reducible refine Row.up ?_ (by with_reducible assumption)) | (with_reducible refine Row.chg ?_ (by with_reducible assumption) (by first | (simp; done) | (simp; omega)))))) hu1; obtain ⟨q0, y0, q1, y1, q2, y2, q3, y3, q4, y4, q5, y5, q6, y6, q7, y7⟩ := zrow_out RZ_w1)))
    go_wp2
    go_ret2
    exact ⟨Or.inl ⟨rfl, w1.heap.size, by omega, rfl, by (repeat' (first | (with_reducible assumption) | (with_reducible refine Row.at _ _ ?_; (simp; done)) | (with_reducible refine Row.alloc ?_ _) | (with_reducible refine Row.drew ?_) | (with_reducible refine Row.drewN ?_ _) | (with_reducible refine Row.other ?_ (by first | (simp; done) | (simp; omega) | omega) _) | (with_reducible refine Row.up ?_ (by with_reducible assumption)) | (with_reducible refine Row.chg ?_ (by with_reducible assumption) (by first | (simp; done) | (simp; omega)))))⟩, by (repeat' (first | (with_reducible exact Up.refl _) | (with_reducible assumption) | (with_reducible refine Up.alloc ?_ _) | (with_reducible refine Up.drew ?_) | (with_reducible refine Up.drewN ?_ _) | (with_reducible refine Up.setCell ?_ ?_ _) | (with_reducible refine Up.call ?_ (by with_reducible assumption)) | go_size))⟩
  · have dz : (re == 0) = false := by simpa using z
    have HZ := Lib.hid z
    clear z
    go_enter Tryd.func10, Tryd.ntmps10
    go_wp2_with (first
      | (go_at_call 7; ((with_reducible refine (known_19 _).mono ?_); rintro E w0 ⟨rfl, rfl⟩)))
    go_region_held3 (fun w' => w'.cell? ⟨g, 0, none⟩ = some (.int .i64 k) ∧ w'.cell? ⟨g, 1, none⟩ = some (.bool x) ∧ w'.cell? ⟨g, 2, none⟩ = some (.int .i64 a) ∧ w'.cell? ⟨g, 3, none⟩ = some (.int .i64 n) ∧ w'.cell? ⟨g, 4, none⟩ = some (.string s) ∧ w'.cell? ⟨g, 5, none⟩ = some (.int .i64 r) ∧ w'.cell? ⟨g, 6, none⟩ = some (.int .i64 f) ∧ w'.cell? ⟨g, 7, none⟩ = some (.int .i64 l) ∧ w'.cell? ⟨g, 8, none⟩ = some (.int .i64 k') ∧ w'.cell? ⟨g, 9, none⟩ = some (.bool x') ∧ w'.cell? ⟨g, 10, none⟩ = some (.int .i64 a') ∧ w'.cell? ⟨g, 11, none⟩ = some (.int .i64 n') ∧ w'.cell? ⟨g, 12, none⟩ = some (.string s') ∧ w'.cell? ⟨g, 13, none⟩ = some (.int .i64 r') ∧ w'.cell? ⟨g, 14, none⟩ = some (.int .i64 f') ∧ w'.cell? ⟨g, 15, none⟩ = some (.int .i64 l')) (first | (with_reducible exact ⟨c0, c1, c2, c3, c4, c5, c6, c7, c8, c9, c10, c11, c12, c13, c14, c15⟩) | go_keep) (first
      | (go_at_call 17; ((with_reducible refine (two_19 k x a n s r f l k' x' a' n' s' r' f' l' _ _ _ _ HR.out).mono ?_); rintro E w1 ⟨rfl, hu1⟩; have k_w1 := hu1.cells.1; have f_w1 := hu1.cells.2; have z_w1 := hu1.size; (try simp at z_w1); have l0_w1 : w.heap.size < w1.heap.size := (by omega); (try clear q0 y0 q1 y1 q2 y2 q3 y3 q4 y4 q5 y5 q6 y6 q7 y7); have RZ_w1 : Row w1 (w.heap.size) #[.int .i64 0, .bool false, .int .i64 0, .int .i64 0, .string ⟨#[]⟩, .int .i64 0, .int .i64 0, .int .i64 0] := Row.up (by (repeat' (first | (with_reducible assumption) | (with_reducible refine Row.at _ _ ?_; (simp; done)) | (with_reducible refine Row.alloc ?_ _) | (with_reducible refine Row.drew ?_) | (with_reducible refine Row.drewN ?_ _) | (with_reducible refine Row.other ?_ (by first | (simp; done) | (simp; omega) | omega) _) | (with_reducible refine Row.up ?_ (by with_reducible assumption)) | (with_reducible refine Row.chg ?_ (by with_reducible assumption) (by first | (simp; done) | (simp; omega)))))) hu1; obtain ⟨q0, y0, q1, y1, q2, y2, q3, y3, q4, y4, q5, y5, q6, y6, q7, y7⟩ := zrow_out RZ_w1)))
    go_wp2
    go_ret2
    exact ⟨Or.inr ⟨HZ.out, rfl⟩, by (repeat' (first | (with_reducible exact Up.refl _) | (with_reducible assumption) | (with_reducible refine Up.alloc ?_ _) | (with_reducible refine Up.drew ?_) | (with_reducible refine Up.drewN ?_ _) | (with_reducible refine Up.setCell ?_ ?_ _) | (with_reducible refine Up.call ?_ (by with_reducible assumption)) | go_size))⟩

set_option maxHeartbeats 1000000 in
theorem do_20 (k : Int) (x : Bool) (a n : Int) (s : ByteArray) (r f l : Int) (k' : Int) (x' : Bool) (a' n' : Int) (s' : ByteArray) (r' f' l' : Int) (g c : Nat) (w : World) (R : Cs w g #[.int .i64 k, .bool x, .int .i64 a, .int .i64 n, .string s, .int .i64 r, .int .i64 f, .int .i64 l, .int .i64 k', .bool x', .int .i64 a', .int .i64 n', .string s', .int .i64 r', .int .i64 f', .int .i64 l']) (hg : g < w.heap.size) (rk rn re : Int) (hR : bin 20 k n k' n' = (rk, rn, re)) :
    Calls Tryd.prog 10 #[.string ⟨#[103, 116]⟩, .slice (some ⟨g, 0, none⟩) 2 c] w fun E w' => Gives w rk rn re E w' ∧ Up w w' := by
  have HR := Lib.hid hR
  have hg1 : g < w.heap.size + 1 := by omega
  have hgn : ¬ w.heap.size = g := by omega
  have c0 := R 0 _ rfl
  have c1 := R 1 _ rfl
  have c2 := R 2 _ rfl
  have c3 := R 3 _ rfl
  have c4 := R 4 _ rfl
  have c5 := R 5 _ rfl
  have c6 := R 6 _ rfl
  have c7 := R 7 _ rfl
  have c8 := R 8 _ rfl
  have c9 := R 9 _ rfl
  have c10 := R 10 _ rfl
  have c11 := R 11 _ rfl
  have c12 := R 12 _ rfl
  have c13 := R 13 _ rfl
  have c14 := R 14 _ rfl
  have c15 := R 15 _ rfl
  clear R hR
  by_cases z : re = 0
  · subst z
    go_enter Tryd.func10, Tryd.ntmps10
    go_wp2_with (first
      | (go_at_call 7; ((with_reducible refine (known_20 _).mono ?_); rintro E w0 ⟨rfl, rfl⟩)))
    go_region_held3 (fun w' => w'.cell? ⟨g, 0, none⟩ = some (.int .i64 k) ∧ w'.cell? ⟨g, 1, none⟩ = some (.bool x) ∧ w'.cell? ⟨g, 2, none⟩ = some (.int .i64 a) ∧ w'.cell? ⟨g, 3, none⟩ = some (.int .i64 n) ∧ w'.cell? ⟨g, 4, none⟩ = some (.string s) ∧ w'.cell? ⟨g, 5, none⟩ = some (.int .i64 r) ∧ w'.cell? ⟨g, 6, none⟩ = some (.int .i64 f) ∧ w'.cell? ⟨g, 7, none⟩ = some (.int .i64 l) ∧ w'.cell? ⟨g, 8, none⟩ = some (.int .i64 k') ∧ w'.cell? ⟨g, 9, none⟩ = some (.bool x') ∧ w'.cell? ⟨g, 10, none⟩ = some (.int .i64 a') ∧ w'.cell? ⟨g, 11, none⟩ = some (.int .i64 n') ∧ w'.cell? ⟨g, 12, none⟩ = some (.string s') ∧ w'.cell? ⟨g, 13, none⟩ = some (.int .i64 r') ∧ w'.cell? ⟨g, 14, none⟩ = some (.int .i64 f') ∧ w'.cell? ⟨g, 15, none⟩ = some (.int .i64 l')) (first | (with_reducible exact ⟨c0, c1, c2, c3, c4, c5, c6, c7, c8, c9, c10, c11, c12, c13, c14, c15⟩) | go_keep) (first
      | (go_at_call 17; ((with_reducible refine (two_20 k x a n s r f l k' x' a' n' s' r' f' l' _ _ _ _ HR.out).mono ?_); rintro E w1 ⟨rfl, hu1⟩; have k_w1 := hu1.cells.1; have f_w1 := hu1.cells.2; have z_w1 := hu1.size; (try simp at z_w1); have l0_w1 : w.heap.size < w1.heap.size := (by omega); (try clear q0 y0 q1 y1 q2 y2 q3 y3 q4 y4 q5 y5 q6 y6 q7 y7); have RZ_w1 : Row w1 (w.heap.size) #[.int .i64 0, .bool false, .int .i64 0, .int .i64 0, .string ⟨#[]⟩, .int .i64 0, .int .i64 0, .int .i64 0] := Row.up (by (repeat' (first | (with_reducible assumption) | (with_reducible refine Row.at _ _ ?_; (simp; done)) | (with_reducible refine Row.alloc ?_ _) | (with_reducible refine Row.drew ?_) | (with_reducible refine Row.drewN ?_ _) | (with_reducible refine Row.other ?_ (by first | (simp; done) | (simp; omega) | omega) _) | (with_reducible refine Row.up ?_ (by with_reducible assumption)) | (with_reducible refine Row.chg ?_ (by with_reducible assumption) (by first | (simp; done) | (simp; omega)))))) hu1; obtain ⟨q0, y0, q1, y1, q2, y2, q3, y3, q4, y4, q5, y5, q6, y6, q7, y7⟩ := zrow_out RZ_w1)))
    go_wp2
    go_ret2
    exact ⟨Or.inl ⟨rfl, w1.heap.size, by omega, rfl, by (repeat' (first | (with_reducible assumption) | (with_reducible refine Row.at _ _ ?_; (simp; done)) | (with_reducible refine Row.alloc ?_ _) | (with_reducible refine Row.drew ?_) | (with_reducible refine Row.drewN ?_ _) | (with_reducible refine Row.other ?_ (by first | (simp; done) | (simp; omega) | omega) _) | (with_reducible refine Row.up ?_ (by with_reducible assumption)) | (with_reducible refine Row.chg ?_ (by with_reducible assumption) (by first | (simp; done) | (simp; omega)))))⟩, by (repeat' (first | (with_reducible exact Up.refl _) | (with_reducible assumption) | (with_reducible refine Up.alloc ?_ _) | (with_reducible refine Up.drew ?_) | (with_reducible refine Up.drewN ?_ _) | (with_reducible refine Up.setCell ?_ ?_ _) | (with_reducible refine Up.call ?_ (by with_reducible assumption)) | go_size))⟩
  · have dz : (re == 0) = false := by simpa using z
    have HZ := Lib.hid z
    clear z
    go_enter Tryd.func10, Tryd.ntmps10
    go_wp2_with (first
      | (go_at_call 7; ((with_reducible refine (known_20 _).mono ?_); rintro E w0 ⟨rfl, rfl⟩)))
    go_region_held3 (fun w' => w'.cell? ⟨g, 0, none⟩ = some (.int .i64 k) ∧ w'.cell? ⟨g, 1, none⟩ = some (.bool x) ∧ w'.cell? ⟨g, 2, none⟩ = some (.int .i64 a) ∧ w'.cell? ⟨g, 3, none⟩ = some (.int .i64 n) ∧ w'.cell? ⟨g, 4, none⟩ = some (.string s) ∧ w'.cell? ⟨g, 5, none⟩ = some (.int .i64 r) ∧ w'.cell? ⟨g, 6, none⟩ = some (.int .i64 f) ∧ w'.cell? ⟨g, 7, none⟩ = some (.int .i64 l) ∧ w'.cell? ⟨g, 8, none⟩ = some (.int .i64 k') ∧ w'.cell? ⟨g, 9, none⟩ = some (.bool x') ∧ w'.cell? ⟨g, 10, none⟩ = some (.int .i64 a') ∧ w'.cell? ⟨g, 11, none⟩ = some (.int .i64 n') ∧ w'.cell? ⟨g, 12, none⟩ = some (.string s') ∧ w'.cell? ⟨g, 13, none⟩ = some (.int .i64 r') ∧ w'.cell? ⟨g, 14, none⟩ = some (.int .i64 f') ∧ w'.cell? ⟨g, 15, none⟩ = some (.int .i64 l')) (first | (with_reducible exact ⟨c0, c1, c2, c3, c4, c5, c6, c7, c8, c9, c10, c11, c12, c13, c14, c15⟩) | go_keep) (first
      | (go_at_call 17; ((with_reducible refine (two_20 k x a n s r f l k' x' a' n' s' r' f' l' _ _ _ _ HR.out).mono ?_); rintro E w1 ⟨rfl, hu1⟩; have k_w1 := hu1.cells.1; have f_w1 := hu1.cells.2; have z_w1 := hu1.size; (try simp at z_w1); have l0_w1 : w.heap.size < w1.heap.size := (by omega); (try clear q0 y0 q1 y1 q2 y2 q3 y3 q4 y4 q5 y5 q6 y6 q7 y7); have RZ_w1 : Row w1 (w.heap.size) #[.int .i64 0, .bool false, .int .i64 0, .int .i64 0, .string ⟨#[]⟩, .int .i64 0, .int .i64 0, .int .i64 0] := Row.up (by (repeat' (first | (with_reducible assumption) | (with_reducible refine Row.at _ _ ?_; (simp; done)) | (with_reducible refine Row.alloc ?_ _) | (with_reducible refine Row.drew ?_) | (with_reducible refine Row.drewN ?_ _) | (with_reducible refine Row.other ?_ (by first | (simp; done) | (simp; omega) | omega) _) | (with_reducible refine Row.up ?_ (by with_reducible assumption)) | (with_reducible refine Row.chg ?_ (by with_reducible assumption) (by first | (simp; done) | (simp; omega)))))) hu1; obtain ⟨q0, y0, q1, y1, q2, y2, q3, y3, q4, y4, q5, y5, q6, y6, q7, y7⟩ := zrow_out RZ_w1)))
    go_wp2
    go_ret2
    exact ⟨Or.inr ⟨HZ.out, rfl⟩, by (repeat' (first | (with_reducible exact Up.refl _) | (with_reducible assumption) | (with_reducible refine Up.alloc ?_ _) | (with_reducible refine Up.drew ?_) | (with_reducible refine Up.drewN ?_ _) | (with_reducible refine Up.setCell ?_ ?_ _) | (with_reducible refine Up.call ?_ (by with_reducible assumption)) | go_size))⟩

set_option maxHeartbeats 1000000 in
theorem do_21 (k : Int) (x : Bool) (a n : Int) (s : ByteArray) (r f l : Int) (k' : Int) (x' : Bool) (a' n' : Int) (s' : ByteArray) (r' f' l' : Int) (g c : Nat) (w : World) (R : Cs w g #[.int .i64 k, .bool x, .int .i64 a, .int .i64 n, .string s, .int .i64 r, .int .i64 f, .int .i64 l, .int .i64 k', .bool x', .int .i64 a', .int .i64 n', .string s', .int .i64 r', .int .i64 f', .int .i64 l']) (hg : g < w.heap.size) (rk rn re : Int) (hR : bin 21 k n k' n' = (rk, rn, re)) :
    Calls Tryd.prog 10 #[.string ⟨#[103, 101]⟩, .slice (some ⟨g, 0, none⟩) 2 c] w fun E w' => Gives w rk rn re E w' ∧ Up w w' := by
  have HR := Lib.hid hR
  have hg1 : g < w.heap.size + 1 := by omega
  have hgn : ¬ w.heap.size = g := by omega
  have c0 := R 0 _ rfl
  have c1 := R 1 _ rfl
  have c2 := R 2 _ rfl
  have c3 := R 3 _ rfl
  have c4 := R 4 _ rfl
  have c5 := R 5 _ rfl
  have c6 := R 6 _ rfl
  have c7 := R 7 _ rfl
  have c8 := R 8 _ rfl
  have c9 := R 9 _ rfl
  have c10 := R 10 _ rfl
  have c11 := R 11 _ rfl
  have c12 := R 12 _ rfl
  have c13 := R 13 _ rfl
  have c14 := R 14 _ rfl
  have c15 := R 15 _ rfl
  clear R hR
  by_cases z : re = 0
  · subst z
    go_enter Tryd.func10, Tryd.ntmps10
    go_wp2_with (first
      | (go_at_call 7; ((with_reducible refine (known_21 _).mono ?_); rintro E w0 ⟨rfl, rfl⟩)))
    go_region_held3 (fun w' => w'.cell? ⟨g, 0, none⟩ = some (.int .i64 k) ∧ w'.cell? ⟨g, 1, none⟩ = some (.bool x) ∧ w'.cell? ⟨g, 2, none⟩ = some (.int .i64 a) ∧ w'.cell? ⟨g, 3, none⟩ = some (.int .i64 n) ∧ w'.cell? ⟨g, 4, none⟩ = some (.string s) ∧ w'.cell? ⟨g, 5, none⟩ = some (.int .i64 r) ∧ w'.cell? ⟨g, 6, none⟩ = some (.int .i64 f) ∧ w'.cell? ⟨g, 7, none⟩ = some (.int .i64 l) ∧ w'.cell? ⟨g, 8, none⟩ = some (.int .i64 k') ∧ w'.cell? ⟨g, 9, none⟩ = some (.bool x') ∧ w'.cell? ⟨g, 10, none⟩ = some (.int .i64 a') ∧ w'.cell? ⟨g, 11, none⟩ = some (.int .i64 n') ∧ w'.cell? ⟨g, 12, none⟩ = some (.string s') ∧ w'.cell? ⟨g, 13, none⟩ = some (.int .i64 r') ∧ w'.cell? ⟨g, 14, none⟩ = some (.int .i64 f') ∧ w'.cell? ⟨g, 15, none⟩ = some (.int .i64 l')) (first | (with_reducible exact ⟨c0, c1, c2, c3, c4, c5, c6, c7, c8, c9, c10, c11, c12, c13, c14, c15⟩) | go_keep) (first
      | (go_at_call 17; ((with_reducible refine (two_21 k x a n s r f l k' x' a' n' s' r' f' l' _ _ _ _ HR.out).mono ?_); rintro E w1 ⟨rfl, hu1⟩; have k_w1 := hu1.cells.1; have f_w1 := hu1.cells.2; have z_w1 := hu1.size; (try simp at z_w1); have l0_w1 : w.heap.size < w1.heap.size := (by omega); (try clear q0 y0 q1 y1 q2 y2 q3 y3 q4 y4 q5 y5 q6 y6 q7 y7); have RZ_w1 : Row w1 (w.heap.size) #[.int .i64 0, .bool false, .int .i64 0, .int .i64 0, .string ⟨#[]⟩, .int .i64 0, .int .i64 0, .int .i64 0] := Row.up (by (repeat' (first | (with_reducible assumption) | (with_reducible refine Row.at _ _ ?_; (simp; done)) | (with_reducible refine Row.alloc ?_ _) | (with_reducible refine Row.drew ?_) | (with_reducible refine Row.drewN ?_ _) | (with_reducible refine Row.other ?_ (by first | (simp; done) | (simp; omega) | omega) _) | (with_reducible refine Row.up ?_ (by with_reducible assumption)) | (with_reducible refine Row.chg ?_ (by with_reducible assumption) (by first | (simp; done) | (simp; omega)))))) hu1; obtain ⟨q0, y0, q1, y1, q2, y2, q3, y3, q4, y4, q5, y5, q6, y6, q7, y7⟩ := zrow_out RZ_w1)))
    go_wp2
    go_ret2
    exact ⟨Or.inl ⟨rfl, w1.heap.size, by omega, rfl, by (repeat' (first | (with_reducible assumption) | (with_reducible refine Row.at _ _ ?_; (simp; done)) | (with_reducible refine Row.alloc ?_ _) | (with_reducible refine Row.drew ?_) | (with_reducible refine Row.drewN ?_ _) | (with_reducible refine Row.other ?_ (by first | (simp; done) | (simp; omega) | omega) _) | (with_reducible refine Row.up ?_ (by with_reducible assumption)) | (with_reducible refine Row.chg ?_ (by with_reducible assumption) (by first | (simp; done) | (simp; omega)))))⟩, by (repeat' (first | (with_reducible exact Up.refl _) | (with_reducible assumption) | (with_reducible refine Up.alloc ?_ _) | (with_reducible refine Up.drew ?_) | (with_reducible refine Up.drewN ?_ _) | (with_reducible refine Up.setCell ?_ ?_ _) | (with_reducible refine Up.call ?_ (by with_reducible assumption)) | go_size))⟩
  · have dz : (re == 0) = false := by simpa using z
    have HZ := Lib.hid z
    clear z
    go_enter Tryd.func10, Tryd.ntmps10
    go_wp2_with (first
      | (go_at_call 7; ((with_reducible refine (known_21 _).mono ?_); rintro E w0 ⟨rfl, rfl⟩)))
    go_region_held3 (fun w' => w'.cell? ⟨g, 0, none⟩ = some (.int .i64 k) ∧ w'.cell? ⟨g, 1, none⟩ = some (.bool x) ∧ w'.cell? ⟨g, 2, none⟩ = some (.int .i64 a) ∧ w'.cell? ⟨g, 3, none⟩ = some (.int .i64 n) ∧ w'.cell? ⟨g, 4, none⟩ = some (.string s) ∧ w'.cell? ⟨g, 5, none⟩ = some (.int .i64 r) ∧ w'.cell? ⟨g, 6, none⟩ = some (.int .i64 f) ∧ w'.cell? ⟨g, 7, none⟩ = some (.int .i64 l) ∧ w'.cell? ⟨g, 8, none⟩ = some (.int .i64 k') ∧ w'.cell? ⟨g, 9, none⟩ = some (.bool x') ∧ w'.cell? ⟨g, 10, none⟩ = some (.int .i64 a') ∧ w'.cell? ⟨g, 11, none⟩ = some (.int .i64 n') ∧ w'.cell? ⟨g, 12, none⟩ = some (.string s') ∧ w'.cell? ⟨g, 13, none⟩ = some (.int .i64 r') ∧ w'.cell? ⟨g, 14, none⟩ = some (.int .i64 f') ∧ w'.cell? ⟨g, 15, none⟩ = some (.int .i64 l')) (first | (with_reducible exact ⟨c0, c1, c2, c3, c4, c5, c6, c7, c8, c9, c10, c11, c12, c13, c14, c15⟩) | go_keep) (first
      | (go_at_call 17; ((with_reducible refine (two_21 k x a n s r f l k' x' a' n' s' r' f' l' _ _ _ _ HR.out).mono ?_); rintro E w1 ⟨rfl, hu1⟩; have k_w1 := hu1.cells.1; have f_w1 := hu1.cells.2; have z_w1 := hu1.size; (try simp at z_w1); have l0_w1 : w.heap.size < w1.heap.size := (by omega); (try clear q0 y0 q1 y1 q2 y2 q3 y3 q4 y4 q5 y5 q6 y6 q7 y7); have RZ_w1 : Row w1 (w.heap.size) #[.int .i64 0, .bool false, .int .i64 0, .int .i64 0, .string ⟨#[]⟩, .int .i64 0, .int .i64 0, .int .i64 0] := Row.up (by (repeat' (first | (with_reducible assumption) | (with_reducible refine Row.at _ _ ?_; (simp; done)) | (with_reducible refine Row.alloc ?_ _) | (with_reducible refine Row.drew ?_) | (with_reducible refine Row.drewN ?_ _) | (with_reducible refine Row.other ?_ (by first | (simp; done) | (simp; omega) | omega) _) | (with_reducible refine Row.up ?_ (by with_reducible assumption)) | (with_reducible refine Row.chg ?_ (by with_reducible assumption) (by first | (simp; done) | (simp; omega)))))) hu1; obtain ⟨q0, y0, q1, y1, q2, y2, q3, y3, q4, y4, q5, y5, q6, y6, q7, y7⟩ := zrow_out RZ_w1)))
    go_wp2
    go_ret2
    exact ⟨Or.inr ⟨HZ.out, rfl⟩, by (repeat' (first | (with_reducible exact Up.refl _) | (with_reducible assumption) | (with_reducible refine Up.alloc ?_ _) | (with_reducible refine Up.drew ?_) | (with_reducible refine Up.drewN ?_ _) | (with_reducible refine Up.setCell ?_ ?_ _) | (with_reducible refine Up.call ?_ (by with_reducible assumption)) | go_size))⟩

set_option maxHeartbeats 1000000 in
theorem do_22 (k : Int) (x : Bool) (a n : Int) (s : ByteArray) (r f l : Int) (k' : Int) (x' : Bool) (a' n' : Int) (s' : ByteArray) (r' f' l' : Int) (g c : Nat) (w : World) (R : Cs w g #[.int .i64 k, .bool x, .int .i64 a, .int .i64 n, .string s, .int .i64 r, .int .i64 f, .int .i64 l, .int .i64 k', .bool x', .int .i64 a', .int .i64 n', .string s', .int .i64 r', .int .i64 f', .int .i64 l']) (hg : g < w.heap.size) (rk rn re : Int) (hR : bin 22 k n k' n' = (rk, rn, re)) :
    Calls Tryd.prog 10 #[.string ⟨#[108, 116]⟩, .slice (some ⟨g, 0, none⟩) 2 c] w fun E w' => Gives w rk rn re E w' ∧ Up w w' := by
  have HR := Lib.hid hR
  have hg1 : g < w.heap.size + 1 := by omega
  have hgn : ¬ w.heap.size = g := by omega
  have c0 := R 0 _ rfl
  have c1 := R 1 _ rfl
  have c2 := R 2 _ rfl
  have c3 := R 3 _ rfl
  have c4 := R 4 _ rfl
  have c5 := R 5 _ rfl
  have c6 := R 6 _ rfl
  have c7 := R 7 _ rfl
  have c8 := R 8 _ rfl
  have c9 := R 9 _ rfl
  have c10 := R 10 _ rfl
  have c11 := R 11 _ rfl
  have c12 := R 12 _ rfl
  have c13 := R 13 _ rfl
  have c14 := R 14 _ rfl
  have c15 := R 15 _ rfl
  clear R hR
  by_cases z : re = 0
  · subst z
    go_enter Tryd.func10, Tryd.ntmps10
    go_wp2_with (first
      | (go_at_call 7; ((with_reducible refine (known_22 _).mono ?_); rintro E w0 ⟨rfl, rfl⟩)))
    go_region_held3 (fun w' => w'.cell? ⟨g, 0, none⟩ = some (.int .i64 k) ∧ w'.cell? ⟨g, 1, none⟩ = some (.bool x) ∧ w'.cell? ⟨g, 2, none⟩ = some (.int .i64 a) ∧ w'.cell? ⟨g, 3, none⟩ = some (.int .i64 n) ∧ w'.cell? ⟨g, 4, none⟩ = some (.string s) ∧ w'.cell? ⟨g, 5, none⟩ = some (.int .i64 r) ∧ w'.cell? ⟨g, 6, none⟩ = some (.int .i64 f) ∧ w'.cell? ⟨g, 7, none⟩ = some (.int .i64 l) ∧ w'.cell? ⟨g, 8, none⟩ = some (.int .i64 k') ∧ w'.cell? ⟨g, 9, none⟩ = some (.bool x') ∧ w'.cell? ⟨g, 10, none⟩ = some (.int .i64 a') ∧ w'.cell? ⟨g, 11, none⟩ = some (.int .i64 n') ∧ w'.cell? ⟨g, 12, none⟩ = some (.string s') ∧ w'.cell? ⟨g, 13, none⟩ = some (.int .i64 r') ∧ w'.cell? ⟨g, 14, none⟩ = some (.int .i64 f') ∧ w'.cell? ⟨g, 15, none⟩ = some (.int .i64 l')) (first | (with_reducible exact ⟨c0, c1, c2, c3, c4, c5, c6, c7, c8, c9, c10, c11, c12, c13, c14, c15⟩) | go_keep) (first
      | (go_at_call 17; ((with_reducible refine (two_22 k x a n s r f l k' x' a' n' s' r' f' l' _ _ _ _ HR.out).mono ?_); rintro E w1 ⟨rfl, hu1⟩; have k_w1 := hu1.cells.1; have f_w1 := hu1.cells.2; have z_w1 := hu1.size; (try simp at z_w1); have l0_w1 : w.heap.size < w1.heap.size := (by omega); (try clear q0 y0 q1 y1 q2 y2 q3 y3 q4 y4 q5 y5 q6 y6 q7 y7); have RZ_w1 : Row w1 (w.heap.size) #[.int .i64 0, .bool false, .int .i64 0, .int .i64 0, .string ⟨#[]⟩, .int .i64 0, .int .i64 0, .int .i64 0] := Row.up (by (repeat' (first | (with_reducible assumption) | (with_reducible refine Row.at _ _ ?_; (simp; done)) | (with_reducible refine Row.alloc ?_ _) | (with_reducible refine Row.drew ?_) | (with_reducible refine Row.drewN ?_ _) | (with_reducible refine Row.other ?_ (by first | (simp; done) | (simp; omega) | omega) _) | (with_reducible refine Row.up ?_ (by with_reducible assumption)) | (with_reducible refine Row.chg ?_ (by with_reducible assumption) (by first | (simp; done) | (simp; omega)))))) hu1; obtain ⟨q0, y0, q1, y1, q2, y2, q3, y3, q4, y4, q5, y5, q6, y6, q7, y7⟩ := zrow_out RZ_w1)))
    go_wp2
    go_ret2
    exact ⟨Or.inl ⟨rfl, w1.heap.size, by omega, rfl, by (repeat' (first | (with_reducible assumption) | (with_reducible refine Row.at _ _ ?_; (simp; done)) | (with_reducible refine Row.alloc ?_ _) | (with_reducible refine Row.drew ?_) | (with_reducible refine Row.drewN ?_ _) | (with_reducible refine Row.other ?_ (by first | (simp; done) | (simp; omega) | omega) _) | (with_reducible refine Row.up ?_ (by with_reducible assumption)) | (with_reducible refine Row.chg ?_ (by with_reducible assumption) (by first | (simp; done) | (simp; omega)))))⟩, by (repeat' (first | (with_reducible exact Up.refl _) | (with_reducible assumption) | (with_reducible refine Up.alloc ?_ _) | (with_reducible refine Up.drew ?_) | (with_reducible refine Up.drewN ?_ _) | (with_reducible refine Up.setCell ?_ ?_ _) | (with_reducible refine Up.call ?_ (by with_reducible assumption)) | go_size))⟩
  · have dz : (re == 0) = false := by simpa using z
    have HZ := Lib.hid z
    clear z
    go_enter Tryd.func10, Tryd.ntmps10
    go_wp2_with (first
      | (go_at_call 7; ((with_reducible refine (known_22 _).mono ?_); rintro E w0 ⟨rfl, rfl⟩)))
    go_region_held3 (fun w' => w'.cell? ⟨g, 0, none⟩ = some (.int .i64 k) ∧ w'.cell? ⟨g, 1, none⟩ = some (.bool x) ∧ w'.cell? ⟨g, 2, none⟩ = some (.int .i64 a) ∧ w'.cell? ⟨g, 3, none⟩ = some (.int .i64 n) ∧ w'.cell? ⟨g, 4, none⟩ = some (.string s) ∧ w'.cell? ⟨g, 5, none⟩ = some (.int .i64 r) ∧ w'.cell? ⟨g, 6, none⟩ = some (.int .i64 f) ∧ w'.cell? ⟨g, 7, none⟩ = some (.int .i64 l) ∧ w'.cell? ⟨g, 8, none⟩ = some (.int .i64 k') ∧ w'.cell? ⟨g, 9, none⟩ = some (.bool x') ∧ w'.cell? ⟨g, 10, none⟩ = some (.int .i64 a') ∧ w'.cell? ⟨g, 11, none⟩ = some (.int .i64 n') ∧ w'.cell? ⟨g, 12, none⟩ = some (.string s') ∧ w'.cell? ⟨g, 13, none⟩ = some (.int .i64 r') ∧ w'.cell? ⟨g, 14, none⟩ = some (.int .i64 f') ∧ w'.cell? ⟨g, 15, none⟩ = some (.int .i64 l')) (first | (with_reducible exact ⟨c0, c1, c2, c3, c4, c5, c6, c7, c8, c9, c10, c11, c12, c13, c14, c15⟩) | go_keep) (first
      | (go_at_call 17; ((with_reducible refine (two_22 k x a n s r f l k' x' a' n' s' r' f' l' _ _ _ _ HR.out).mono ?_); rintro E w1 ⟨rfl, hu1⟩; have k_w1 := hu1.cells.1; have f_w1 := hu1.cells.2; have z_w1 := hu1.size; (try simp at z_w1); have l0_w1 : w.heap.size < w1.heap.size := (by omega); (try clear q0 y0 q1 y1 q2 y2 q3 y3 q4 y4 q5 y5 q6 y6 q7 y7); have RZ_w1 : Row w1 (w.heap.size) #[.int .i64 0, .bool false, .int .i64 0, .int .i64 0, .string ⟨#[]⟩, .int .i64 0, .int .i64 0, .int .i64 0] := Row.up (by (repeat' (first | (with_reducible assumption) | (with_reducible refine Row.at _ _ ?_; (simp; done)) | (with_reducible refine Row.alloc ?_ _) | (with_reducible refine Row.drew ?_) | (with_reducible refine Row.drewN ?_ _) | (with_reducible refine Row.other ?_ (by first | (simp; done) | (simp; omega) | omega) _) | (with_reducible refine Row.up ?_ (by with_reducible assumption)) | (with_reducible refine Row.chg ?_ (by with_reducible assumption) (by first | (simp; done) | (simp; omega)))))) hu1; obtain ⟨q0, y0, q1, y1, q2, y2, q3, y3, q4, y4, q5, y5, q6, y6, q7, y7⟩ := zrow_out RZ_w1)))
    go_wp2
    go_ret2
    exact ⟨Or.inr ⟨HZ.out, rfl⟩, by (repeat' (first | (with_reducible exact Up.refl _) | (with_reducible assumption) | (with_reducible refine Up.alloc ?_ _) | (with_reducible refine Up.drew ?_) | (with_reducible refine Up.drewN ?_ _) | (with_reducible refine Up.setCell ?_ ?_ _) | (with_reducible refine Up.call ?_ (by with_reducible assumption)) | go_size))⟩

set_option maxHeartbeats 1000000 in
theorem do_23 (k : Int) (x : Bool) (a n : Int) (s : ByteArray) (r f l : Int) (k' : Int) (x' : Bool) (a' n' : Int) (s' : ByteArray) (r' f' l' : Int) (g c : Nat) (w : World) (R : Cs w g #[.int .i64 k, .bool x, .int .i64 a, .int .i64 n, .string s, .int .i64 r, .int .i64 f, .int .i64 l, .int .i64 k', .bool x', .int .i64 a', .int .i64 n', .string s', .int .i64 r', .int .i64 f', .int .i64 l']) (hg : g < w.heap.size) (rk rn re : Int) (hR : bin 23 k n k' n' = (rk, rn, re)) :
    Calls Tryd.prog 10 #[.string ⟨#[108, 101]⟩, .slice (some ⟨g, 0, none⟩) 2 c] w fun E w' => Gives w rk rn re E w' ∧ Up w w' := by
  have HR := Lib.hid hR
  have hg1 : g < w.heap.size + 1 := by omega
  have hgn : ¬ w.heap.size = g := by omega
  have c0 := R 0 _ rfl
  have c1 := R 1 _ rfl
  have c2 := R 2 _ rfl
  have c3 := R 3 _ rfl
  have c4 := R 4 _ rfl
  have c5 := R 5 _ rfl
  have c6 := R 6 _ rfl
  have c7 := R 7 _ rfl
  have c8 := R 8 _ rfl
  have c9 := R 9 _ rfl
  have c10 := R 10 _ rfl
  have c11 := R 11 _ rfl
  have c12 := R 12 _ rfl
  have c13 := R 13 _ rfl
  have c14 := R 14 _ rfl
  have c15 := R 15 _ rfl
  clear R hR
  by_cases z : re = 0
  · subst z
    go_enter Tryd.func10, Tryd.ntmps10
    go_wp2_with (first
      | (go_at_call 7; ((with_reducible refine (known_23 _).mono ?_); rintro E w0 ⟨rfl, rfl⟩)))
    go_region_held3 (fun w' => w'.cell? ⟨g, 0, none⟩ = some (.int .i64 k) ∧ w'.cell? ⟨g, 1, none⟩ = some (.bool x) ∧ w'.cell? ⟨g, 2, none⟩ = some (.int .i64 a) ∧ w'.cell? ⟨g, 3, none⟩ = some (.int .i64 n) ∧ w'.cell? ⟨g, 4, none⟩ = some (.string s) ∧ w'.cell? ⟨g, 5, none⟩ = some (.int .i64 r) ∧ w'.cell? ⟨g, 6, none⟩ = some (.int .i64 f) ∧ w'.cell? ⟨g, 7, none⟩ = some (.int .i64 l) ∧ w'.cell? ⟨g, 8, none⟩ = some (.int .i64 k') ∧ w'.cell? ⟨g, 9, none⟩ = some (.bool x') ∧ w'.cell? ⟨g, 10, none⟩ = some (.int .i64 a') ∧ w'.cell? ⟨g, 11, none⟩ = some (.int .i64 n') ∧ w'.cell? ⟨g, 12, none⟩ = some (.string s') ∧ w'.cell? ⟨g, 13, none⟩ = some (.int .i64 r') ∧ w'.cell? ⟨g, 14, none⟩ = some (.int .i64 f') ∧ w'.cell? ⟨g, 15, none⟩ = some (.int .i64 l')) (first | (with_reducible exact ⟨c0, c1, c2, c3, c4, c5, c6, c7, c8, c9, c10, c11, c12, c13, c14, c15⟩) | go_keep) (first
      | (go_at_call 17; ((with_reducible refine (two_23 k x a n s r f l k' x' a' n' s' r' f' l' _ _ _ _ HR.out).mono ?_); rintro E w1 ⟨rfl, hu1⟩; have k_w1 := hu1.cells.1; have f_w1 := hu1.cells.2; have z_w1 := hu1.size; (try simp at z_w1); have l0_w1 : w.heap.size < w1.heap.size := (by omega); (try clear q0 y0 q1 y1 q2 y2 q3 y3 q4 y4 q5 y5 q6 y6 q7 y7); have RZ_w1 : Row w1 (w.heap.size) #[.int .i64 0, .bool false, .int .i64 0, .int .i64 0, .string ⟨#[]⟩, .int .i64 0, .int .i64 0, .int .i64 0] := Row.up (by (repeat' (first | (with_reducible assumption) | (with_reducible refine Row.at _ _ ?_; (simp; done)) | (with_reducible refine Row.alloc ?_ _) | (with_reducible refine Row.drew ?_) | (with_reducible refine Row.drewN ?_ _) | (with_reducible refine Row.other ?_ (by first | (simp; done) | (simp; omega) | omega) _) | (with_reducible refine Row.up ?_ (by with_reducible assumption)) | (with_reducible refine Row.chg ?_ (by with_reducible assumption) (by first | (simp; done) | (simp; omega)))))) hu1; obtain ⟨q0, y0, q1, y1, q2, y2, q3, y3, q4, y4, q5, y5, q6, y6, q7, y7⟩ := zrow_out RZ_w1)))
    go_wp2
    go_ret2
    exact ⟨Or.inl ⟨rfl, w1.heap.size, by omega, rfl, by (repeat' (first | (with_reducible assumption) | (with_reducible refine Row.at _ _ ?_; (simp; done)) | (with_reducible refine Row.alloc ?_ _) | (with_reducible refine Row.drew ?_) | (with_reducible refine Row.drewN ?_ _) | (with_reducible refine Row.other ?_ (by first | (simp; done) | (simp; omega) | omega) _) | (with_reducible refine Row.up ?_ (by with_reducible assumption)) | (with_reducible refine Row.chg ?_ (by with_reducible assumption) (by first | (simp; done) | (simp; omega)))))⟩, by (repeat' (first | (with_reducible exact Up.refl _) | (with_reducible assumption) | (with_reducible refine Up.alloc ?_ _) | (with_reducible refine Up.drew ?_) | (with_reducible refine Up.drewN ?_ _) | (with_reducible refine Up.setCell ?_ ?_ _) | (with_reducible refine Up.call ?_ (by with_reducible assumption)) | go_size))⟩
  · have dz : (re == 0) = false := by simpa using z
    have HZ := Lib.hid z
    clear z
    go_enter Tryd.func10, Tryd.ntmps10
    go_wp2_with (first
      | (go_at_call 7; ((with_reducible refine (known_23 _).mono ?_); rintro E w0 ⟨rfl, rfl⟩)))
    go_region_held3 (fun w' => w'.cell? ⟨g, 0, none⟩ = some (.int .i64 k) ∧ w'.cell? ⟨g, 1, none⟩ = some (.bool x) ∧ w'.cell? ⟨g, 2, none⟩ = some (.int .i64 a) ∧ w'.cell? ⟨g, 3, none⟩ = some (.int .i64 n) ∧ w'.cell? ⟨g, 4, none⟩ = some (.string s) ∧ w'.cell? ⟨g, 5, none⟩ = some (.int .i64 r) ∧ w'.cell? ⟨g, 6, none⟩ = some (.int .i64 f) ∧ w'.cell? ⟨g, 7, none⟩ = some (.int .i64 l) ∧ w'.cell? ⟨g, 8, none⟩ = some (.int .i64 k') ∧ w'.cell? ⟨g, 9, none⟩ = some (.bool x') ∧ w'.cell? ⟨g, 10, none⟩ = some (.int .i64 a') ∧ w'.cell? ⟨g, 11, none⟩ = some (.int .i64 n') ∧ w'.cell? ⟨g, 12, none⟩ = some (.string s') ∧ w'.cell? ⟨g, 13, none⟩ = some (.int .i64 r') ∧ w'.cell? ⟨g, 14, none⟩ = some (.int .i64 f') ∧ w'.cell? ⟨g, 15, none⟩ = some (.int .i64 l')) (first | (with_reducible exact ⟨c0, c1, c2, c3, c4, c5, c6, c7, c8, c9, c10, c11, c12, c13, c14, c15⟩) | go_keep) (first
      | (go_at_call 17; ((with_reducible refine (two_23 k x a n s r f l k' x' a' n' s' r' f' l' _ _ _ _ HR.out).mono ?_); rintro E w1 ⟨rfl, hu1⟩; have k_w1 := hu1.cells.1; have f_w1 := hu1.cells.2; have z_w1 := hu1.size; (try simp at z_w1); have l0_w1 : w.heap.size < w1.heap.size := (by omega); (try clear q0 y0 q1 y1 q2 y2 q3 y3 q4 y4 q5 y5 q6 y6 q7 y7); have RZ_w1 : Row w1 (w.heap.size) #[.int .i64 0, .bool false, .int .i64 0, .int .i64 0, .string ⟨#[]⟩, .int .i64 0, .int .i64 0, .int .i64 0] := Row.up (by (repeat' (first | (with_reducible assumption) | (with_reducible refine Row.at _ _ ?_; (simp; done)) | (with_reducible refine Row.alloc ?_ _) | (with_reducible refine Row.drew ?_) | (with_reducible refine Row.drewN ?_ _) | (with_reducible refine Row.other ?_ (by first | (simp; done) | (simp; omega) | omega) _) | (with_reducible refine Row.up ?_ (by with_reducible assumption)) | (with_reducible refine Row.chg ?_ (by with_reducible assumption) (by first | (simp; done) | (simp; omega)))))) hu1; obtain ⟨q0, y0, q1, y1, q2, y2, q3, y3, q4, y4, q5, y5, q6, y6, q7, y7⟩ := zrow_out RZ_w1)))
    go_wp2
    go_ret2
    exact ⟨Or.inr ⟨HZ.out, rfl⟩, by (repeat' (first | (with_reducible exact Up.refl _) | (with_reducible assumption) | (with_reducible refine Up.alloc ?_ _) | (with_reducible refine Up.drew ?_) | (with_reducible refine Up.drewN ?_ _) | (with_reducible refine Up.setCell ?_ ?_ _) | (with_reducible refine Up.call ?_ (by with_reducible assumption)) | go_size))⟩

end Go.Proofs.YtakickodehebmaaDoor.Ar
