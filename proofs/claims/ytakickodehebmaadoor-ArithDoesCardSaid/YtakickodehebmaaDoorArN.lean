/- An operator is done, of one operand: package arith. -/
import Derived.Test.YtakickodehebmaaDoorArG
import Derived.Test.YtakickodehebmaaDoorArL
namespace Go.Proofs.YtakickodehebmaaDoor.Ar
open Go.ChangeShapes Go.WideShapes Go.ChangeAt Go.RowKit
open Go.Proofs.YtakickodehebmaaDoor.FixM (fits within)
open Go.Proofs.YtakickodehebmaaDoor.ArM
set_option linter.unusedVariables false
set_option linter.unusedSimpArgs false
set_option maxHeartbeats 1000000 in
theorem do_0 (k : Int) (x : Bool) (a n : Int) (s : ByteArray) (r f l : Int)  (g c : Nat) (w : World) (R : Cs w g #[.int .i64 k, .bool x, .int .i64 a, .int .i64 n, .string s, .int .i64 r, .int .i64 f, .int .i64 l]) (hg : g < w.heap.size) (rk rn re : Int) (hR : un 0 k n = (rk, rn, re)) :
    Calls Tryd.prog 10 #[.string ⟨#[110, 101, 103]⟩, .slice (some ⟨g, 0, none⟩) 1 c] w fun E w' => Gives w rk rn re E w' ∧ Up w w' := by
  have HR := Lib.hid hR
  have hg1 : g < w.heap.size + 1 := by omega
  have hgn : ¬ w.heap.size = g := by omega
  have c0 := R 0 _ rfl
  have c1 := R 1 _ rfl
  have c2 := R 2 _ rfl
  have c3 := R 3 _ rfl
  have c4 := R 4 _ rfl
  have c5 := R 5 _ rfl
  have c6 := R 6 _ rfl
  have c7 := R 7 _ rfl
  clear R hR
  by_cases z : re = 0
  · subst z
    go_enter Tryd.func10, Tryd.ntmps10
    go_wp2_with (first
      | (go_at_call 7; ((with_reducible refine (known_0 _).mono ?_); rintro E w0 ⟨rfl, rfl⟩))
      | (go_at_call 16; ((with_reducible refine (one_0 k x a n s r f l _ _ _ _ HR.out).mono ?_); rintro E w1 ⟨rfl, hu1⟩; have k_w1 := hu1.cells.1; have f_w1 := hu1.cells.2; have z_w1 := hu1.size; (try simp at z_w1); have l0_w1 : w.heap.size < w1.heap.size := (by omega); (try clear q0 y0 q1 y1 q2 y2 q3 y3 q4 y4 q5 y5 q6 y6 q7 y7); have RZ_w1 : Row w1 (w.heap.size) #[.int .i64 0, .bool false, .int .i64 0, .int .i64 0, .string ⟨#[]⟩, .int .i64 0, .int .i64 0, .int .i64 0] := Row.up (by (repeat' (first | (with_reducible assumption) | (with_reducible refine Row.at _ _ ?_; (simp; done)) | (with_reducible refine Row.alloc ?_ _) | (with_reducible refine Row.drew ?_) | (with_reducible refine Row.drewN ?_ _) | (with_reducible refine Row.other ?_ (by first | (simp; done) | (simp; omega) | omega) _) | (with_reducible refine Row.up ?_ (by with_reducible assumption)) | (with_reducible refine Row.chg ?_ (by with_reducible assumption) (by first | (simp; done) | (simp; omega)))))) hu1; obtain ⟨q0, y0, q1, y1, q2, y2, q3, y3, q4, y4, q5, y5, q6, y6, q7, y7⟩ := zrow_out RZ_w1)))
    go_ret2
    exact ⟨Or.inl ⟨rfl, w1.heap.size, by omega, rfl, by (repeat' (first | (with_reducible assumption) | (with_reducible refine Row.at _ _ ?_; (simp; done)) | (with_reducible refine Row.alloc ?_ _) | (with_reducible refine Row.drew ?_) | (with_reducible refine Row.drewN ?_ _) | (with_reducible refine Row.other ?_ (by first | (simp; done) | (simp; omega) | omega) _) | (with_reducible refine Row.up ?_ (by with_reducible assumption)) | (with_reducible refine Row.chg ?_ (by with_reducible assumption) (by first | (simp; done) | (simp; omega)))))⟩, by (repeat' (first | (with_reducible exact Up.refl _) | (with_reducible assumption) | (with_reducible refine Up.alloc ?_ _) | (with_reducible refine Up.drew ?_) | (with_reducible refine Up.drewN ?_ _) | (with_reducible refine Up.setCell ?_ ?_ _) | (with_reducible refine Up.call ?_ (by with_reducible assumption)) | go_size))⟩
  · have dz : (re == 0) = false := by simpa using z
    have HZ := Lib.hid z
    clear z
    go_enter Tryd.func10, Tryd.ntmps10
    go_wp2_with (first
      | (go_at_call 7; ((with_reducible refine (known_0 _).mono ?_); rintro E w0 ⟨rfl, rfl⟩))
      | (go_at_call 16; ((with_reducible refine (one_0 k x a n s r f l _ _ _ _ HR.out).mono ?_); rintro E w1 ⟨rfl, hu1⟩; have k_w1 := hu1.cells.1; have f_w1 := hu1.cells.2; have z_w1 := hu1.size; (try simp at z_w1); have l0_w1 : w.heap.size < w1.heap.size := (by omega); (try clear q0 y0 q1 y1 q2 y2 q3 y3 q4 y4 q5 y5 q6 y6 q7 y7); have RZ_w1 : Row w1 (w.heap.size) #[.int .i64 0, .bool false, .int .i64 0, .int .i64 0, .string ⟨#[]⟩, .int .i64 0, .int .i64 0, .int .i64 0] := Row.up (by (repeat' (first | (with_reducible assumption) | (with_reducible refine Row.at _ _ ?_; (simp; done)) | (with_reducible refine Row.alloc ?_ _) | (with_reducible refine Row.drew ?_) | (with_reducible refine Row.drewN ?_ _) | (with_reducible refine Row.other ?_ (by first | (simp; done) | (simp; omega) | omega) _) | (with_reducible refine Row.up ?_ (by with_reducible assumption)) | (with_reducible refine Row.chg ?_ (by with_reducible assumption) (by first | (simp; done) | (simp; omega)))))) hu1; obtain ⟨q0, y0, q1, y1, q2, y2, q3, y3, q4, y4, q5, y5, q6, y6, q7, y7⟩ := zrow_out RZ_w1)))
    go_ret2
    exact ⟨Or.inr ⟨HZ.out, rfl⟩, by (repeat' (first | (with_reducible exact Up.refl _) | (with_reducible assumption) | (with_reducible refine Up.alloc ?_ _) | (with_reducible refine Up.drew ?_) | (with_reducible refine Up.drewN ?_ _) | (with_reducible refine Up.setCell ?_ ?_ _) | (with_reducible refine Up.call ?_ (by with_reducible assumption)) | go_size))⟩

set_option maxHeartbeats 1000000 in
theorem do_1 (k : Int) (x : Bool) (a n : Int) (s : ByteArray) (r f l : Int)  (g c : Nat) (w : World) (R : Cs w g #[.int .i64 k, .bool x, .int .i64 a, .int .i64 n, .string s, .int .i64 r, .int .i64 f, .int .i64 l]) (hg : g < w.heap.size) (rk rn re : Int) (hR : un 1 k n = (rk, rn, re)) :
    Calls Tryd.prog 10 #[.string ⟨#[97, 98, 115]⟩, .slice (some ⟨g, 0, none⟩) 1 c] w fun E w' => Gives w rk rn re E w' ∧ Up w w' := by
  have HR := Lib.hid hR
  have hg1 : g < w.heap.size + 1 := by omega
  have hgn : ¬ w.heap.size = g := by omega
  have c0 := R 0 _ rfl
  have c1 := R 1 _ rfl
  have c2 := R 2 _ rfl
  have c3 := R 3 _ rfl
  have c4 := R 4 _ rfl
  have c5 := R 5 _ rfl
  have c6 := R 6 _ rfl
  have c7 := R 7 _ rfl
  clear R hR
  by_cases z : re = 0
  · subst z
    go_enter Tryd.func10, Tryd.ntmps10
    go_wp2_with (first
      | (go_at_call 7; ((with_reducible refine (known_1 _).mono ?_); rintro E w0 ⟨rfl, rfl⟩))
      | (go_at_call 16; ((with_reducible refine (one_1 k x a n s r f l _ _ _ _ HR.out).mono ?_); rintro E w1 ⟨rfl, hu1⟩; have k_w1 := hu1.cells.1; have f_w1 := hu1.cells.2; have z_w1 := hu1.size; (try simp at z_w1); have l0_w1 : w.heap.size < w1.heap.size := (by omega); (try clear q0 y0 q1 y1 q2 y2 q3 y3 q4 y4 q5 y5 q6 y6 q7 y7); have RZ_w1 : Row w1 (w.heap.size) #[.int .i64 0, .bool false, .int .i64 0, .int .i64 0, .string ⟨#[]⟩, .int .i64 0, .int .i64 0, .int .i64 0] := Row.up (by (repeat' (first | (with_reducible assumption) | (with_reducible refine Row.at _ _ ?_; (simp; done)) | (with_reducible refine Row.alloc ?_ _) | (with_reducible refine Row.drew ?_) | (with_reducible refine Row.drewN ?_ _) | (with_reducible refine Row.other ?_ (by first | (simp; done) | (simp; omega) | omega) _) | (with_reducible refine Row.up ?_ (by with_reducible assumption)) | (with_reducible refine Row.chg ?_ (by with_reducible assumption) (by first | (simp; done) | (simp; omega)))))) hu1; obtain ⟨q0, y0, q1, y1, q2, y2, q3, y3, q4, y4, q5, y5, q6, y6, q7, y7⟩ := zrow_out RZ_w1)))
    go_ret2
    exact ⟨Or.inl ⟨rfl, w1.heap.size, by omega, rfl, by (repeat' (first | (with_reducible assumption) | (with_reducible refine Row.at _ _ ?_; (simp; done)) | (with_reducible refine Row.alloc ?_ _) | (with_reducible refine Row.drew ?_) | (with_reducible refine Row.drewN ?_ _) | (with_reducible refine Row.other ?_ (by first | (simp; done) | (simp; omega) | omega) _) | (with_reducible refine Row.up ?_ (by with_reducible assumption)) | (with_reducible refine Row.chg ?_ (by with_reducible assumption) (by first | (simp; done) | (simp; omega)))))⟩, by (repeat' (first | (with_reducible exact Up.refl _) | (with_reducible assumption) | (with_reducible refine Up.alloc ?_ _) | (with_reducible refine Up.drew ?_) | (with_reducible refine Up.drewN ?_ _) | (with_reducible refine Up.setCell ?_ ?_ _) | (with_reducible refine Up.call ?_ (by with_reducible assumption)) | go_size))⟩
  · have dz : (re == 0) = false := by simpa using z
    have HZ := Lib.hid z
    clear z
    go_enter Tryd.func10, Tryd.ntmps10
    go_wp2_with (first
      | (go_at_call 7; ((with_reducible refine (known_1 _).mono ?_); rintro E w0 ⟨rfl, rfl⟩))
      | (go_at_call 16; ((with_reducible refine (one_1 k x a n s r f l _ _ _ _ HR.out).mono ?_); rintro E w1 ⟨rfl, hu1⟩; have k_w1 := hu1.cells.1; have f_w1 := hu1.cells.2; have z_w1 := hu1.size; (try simp at z_w1); have l0_w1 : w.heap.size < w1.heap.size := (by omega); (try clear q0 y0 q1 y1 q2 y2 q3 y3 q4 y4 q5 y5 q6 y6 q7 y7); have RZ_w1 : Row w1 (w.heap.size) #[.int .i64 0, .bool false, .int .i64 0, .int .i64 0, .string ⟨#[]⟩, .int .i64 0, .int .i64 0, .int .i64 0] := Row.up (by (repeat' (first | (with_reducible assumption) | (with_reducible refine Row.at _ _ ?_; (simp; done)) | (with_reducible refine Row.alloc ?_ _) | (with_reducible refine Row.drew ?_) | (with_reducible refine Row.drewN ?_ _) | (with_reducible refine Row.other ?_ (by first | (simp; done) | (simp; omega) | omega) _) | (with_reducible refine Row.up ?_ (by with_reducible assumption)) | (with_reducible refine Row.chg ?_ (by with_reducible assumption) (by first | (simp; done) | (simp; omega)))))) hu1; obtain ⟨q0, y0, q1, y1, q2, y2, q3, y3, q4, y4, q5, y5, q6, y6, q7, y7⟩ := zrow_out RZ_w1)))
    go_ret2
    exact ⟨Or.inr ⟨HZ.out, rfl⟩, by (repeat' (first | (with_reducible exact Up.refl _) | (with_reducible assumption) | (with_reducible refine Up.alloc ?_ _) | (with_reducible refine Up.drew ?_) | (with_reducible refine Up.drewN ?_ _) | (with_reducible refine Up.setCell ?_ ?_ _) | (with_reducible refine Up.call ?_ (by with_reducible assumption)) | go_size))⟩

set_option maxHeartbeats 1000000 in
theorem do_2 (k : Int) (x : Bool) (a n : Int) (s : ByteArray) (r f l : Int)  (g c : Nat) (w : World) (R : Cs w g #[.int .i64 k, .bool x, .int .i64 a, .int .i64 n, .string s, .int .i64 r, .int .i64 f, .int .i64 l]) (hg : g < w.heap.size) (rk rn re : Int) (hR : un 2 k n = (rk, rn, re)) :
    Calls Tryd.prog 10 #[.string ⟨#[99, 101, 105, 108, 105, 110, 103]⟩, .slice (some ⟨g, 0, none⟩) 1 c] w fun E w' => Gives w rk rn re E w' ∧ Up w w' := by
  have HR := Lib.hid hR
  have hg1 : g < w.heap.size + 1 := by omega
  have hgn : ¬ w.heap.size = g := by omega
  have c0 := R 0 _ rfl
  have c1 := R 1 _ rfl
  have c2 := R 2 _ rfl
  have c3 := R 3 _ rfl
  have c4 := R 4 _ rfl
  have c5 := R 5 _ rfl
  have c6 := R 6 _ rfl
  have c7 := R 7 _ rfl
  clear R hR
  by_cases z : re = 0
  · subst z
    go_enter Tryd.func10, Tryd.ntmps10
    go_wp2_with (first
      | (go_at_call 7; ((with_reducible refine (known_2 _).mono ?_); rintro E w0 ⟨rfl, rfl⟩))
      | (go_at_call 16; ((with_reducible refine (one_2 k x a n s r f l _ _ _ _ HR.out).mono ?_); rintro E w1 ⟨rfl, hu1⟩; have k_w1 := hu1.cells.1; have f_w1 := hu1.cells.2; have z_w1 := hu1.size; (try simp at z_w1); have l0_w1 : w.heap.size < w1.heap.size := (by omega); (try clear q0 y0 q1 y1 q2 y2 q3 y3 q4 y4 q5 y5 q6 y6 q7 y7); have RZ_w1 : Row w1 (w.heap.size) #[.int .i64 0, .bool false, .int .i64 0, .int .i64 0, .string ⟨#[]⟩, .int .i64 0, .int .i64 0, .int .i64 0] := Row.up (by (repeat' (first | (with_reducible assumption) | (with_reducible refine Row.at _ _ ?_; (simp; done)) | (with_reducible refine Row.alloc ?_ _) | (with_reducible refine Row.drew ?_) | (with_reducible refine Row.drewN ?_ _) | (with_reducible refine Row.other ?_ (by first | (simp; done) | (simp; omega) | omega) _) | (with_reducible refine Row.up ?_ (by with_reducible assumption)) | (with_reducible refine Row.chg ?_ (by with_reducible assumption) (by first | (simp; done) | (simp; omega)))))) hu1; obtain ⟨q0, y0, q1, y1, q2, y2, q3, y3, q4, y4, q5, y5, q6, y6, q7, y7⟩ := zrow_out RZ_w1)))
    go_ret2
    exact ⟨Or.inl ⟨rfl, w1.heap.size, by omega, rfl, by (repeat' (first | (with_reducible assumption) | (with_reducible refine Row.at _ _ ?_; (simp; done)) | (with_reducible refine Row.alloc ?_ _) | (with_reducible refine Row.drew ?_) | (with_reducible refine Row.drewN ?_ _) | (with_reducible refine Row.other ?_ (by first | (simp; done) | (simp; omega) | omega) _) | (with_reducible refine Row.up ?_ (by with_reducible assumption)) | (with_reducible refine Row.chg ?_ (by with_reducible assumption) (by first | (simp; done) | (simp; omega)))))⟩, by (repeat' (first | (with_reducible exact Up.refl _) | (with_reducible assumption) | (with_reducible refine Up.alloc ?_ _) | (with_reducible refine Up.drew ?_) | (with_reducible refine Up.drewN ?_ _) | (with_reducible refine Up.setCell ?_ ?_ _) | (with_reducible refine Up.call ?_ (by with_reducible assumption)) | go_size))⟩
  · have dz : (re == 0) = false := by simpa using z
    have HZ := Lib.hid z
    clear z
    go_enter Tryd.func10, Tryd.ntmps10
    go_wp2_with (first
      | (go_at_call 7; ((with_reducible refine (known_2 _).mono ?_); rintro E w0 ⟨rfl, rfl⟩))
      | (go_at_call 16; ((with_reducible refine (one_2 k x a n s r f l _ _ _ _ HR.out).mono ?_); rintro E w1 ⟨rfl, hu1⟩; have k_w1 := hu1.cells.1; have f_w1 := hu1.cells.2; have z_w1 := hu1.size; (try simp at z_w1); have l0_w1 : w.heap.size < w1.heap.size := (by omega); (try clear q0 y0 q1 y1 q2 y2 q3 y3 q4 y4 q5 y5 q6 y6 q7 y7); have RZ_w1 : Row w1 (w.heap.size) #[.int .i64 0, .bool false, .int .i64 0, .int .i64 0, .string ⟨#[]⟩, .int .i64 0, .int .i64 0, .int .i64 0] := Row.up (by (repeat' (first | (with_reducible assumption) | (with_reducible refine Row.at _ _ ?_; (simp; done)) | (with_reducible refine Row.alloc ?_ _) | (with_reducible refine Row.drew ?_) | (with_reducible refine Row.drewN ?_ _) | (with_reducible refine Row.other ?_ (by first | (simp; done) | (simp; omega) | omega) _) | (with_reducible refine Row.up ?_ (by with_reducible assumption)) | (with_reducible refine Row.chg ?_ (by with_reducible assumption) (by first | (simp; done) | (simp; omega)))))) hu1; obtain ⟨q0, y0, q1, y1, q2, y2, q3, y3, q4, y4, q5, y5, q6, y6, q7, y7⟩ := zrow_out RZ_w1)))
    go_ret2
    exact ⟨Or.inr ⟨HZ.out, rfl⟩, by (repeat' (first | (with_reducible exact Up.refl _) | (with_reducible assumption) | (with_reducible refine Up.alloc ?_ _) | (with_reducible refine Up.drew ?_) | (with_reducible refine Up.drewN ?_ _) | (with_reducible refine Up.setCell ?_ ?_ _) | (with_reducible refine Up.call ?_ (by with_reducible assumption)) | go_size))⟩

set_option maxHeartbeats 1000000 in
theorem do_3 (k : Int) (x : Bool) (a n : Int) (s : ByteArray) (r f l : Int)  (g c : Nat) (w : World) (R : Cs w g #[.int .i64 k, .bool x, .int .i64 a, .int .i64 n, .string s, .int .i64 r, .int .i64 f, .int .i64 l]) (hg : g < w.heap.size) (rk rn re : Int) (hR : un 3 k n = (rk, rn, re)) :
    Calls Tryd.prog 10 #[.string ⟨#[102, 108, 111, 111, 114]⟩, .slice (some ⟨g, 0, none⟩) 1 c] w fun E w' => Gives w rk rn re E w' ∧ Up w w' := by
  have HR := Lib.hid hR
  have hg1 : g < w.heap.size + 1 := by omega
  have hgn : ¬ w.heap.size = g := by omega
  have c0 := R 0 _ rfl
  have c1 := R 1 _ rfl
  have c2 := R 2 _ rfl
  have c3 := R 3 _ rfl
  have c4 := R 4 _ rfl
  have c5 := R 5 _ rfl
  have c6 := R 6 _ rfl
  have c7 := R 7 _ rfl
  clear R hR
  by_cases z : re = 0
  · subst z
    go_enter Tryd.func10, Tryd.ntmps10
    go_wp2_with (first
      | (go_at_call 7; ((with_reducible refine (known_3 _).mono ?_); rintro E w0 ⟨rfl, rfl⟩))
      | (go_at_call 16; ((with_reducible refine (one_3 k x a n s r f l _ _ _ _ HR.out).mono ?_); rintro E w1 ⟨rfl, hu1⟩; have k_w1 := hu1.cells.1; have f_w1 := hu1.cells.2; have z_w1 := hu1.size; (try simp at z_w1); have l0_w1 : w.heap.size < w1.heap.size := (by omega); (try clear q0 y0 q1 y1 q2 y2 q3 y3 q4 y4 q5 y5 q6 y6 q7 y7); have RZ_w1 : Row w1 (w.heap.size) #[.int .i64 0, .bool false, .int .i64 0, .int .i64 0, .string ⟨#[]⟩, .int .i64 0, .int .i64 0, .int .i64 0] := Row.up (by (repeat' (first | (with_reducible assumption) | (with_reducible refine Row.at _ _ ?_; (simp; done)) | (with_reducible refine Row.alloc ?_ _) | (with_reducible refine Row.drew ?_) | (with_reducible refine Row.drewN ?_ _) | (with_reducible refine Row.other ?_ (by first | (simp; done) | (simp; omega) | omega) _) | (with_reducible refine Row.up ?_ (by with_reducible assumption)) | (with_reducible refine Row.chg ?_ (by with_reducible assumption) (by first | (simp; done) | (simp; omega)))))) hu1; obtain ⟨q0, y0, q1, y1, q2, y2, q3, y3, q4, y4, q5, y5, q6, y6, q7, y7⟩ := zrow_out RZ_w1)))
    go_ret2
    exact ⟨Or.inl ⟨rfl, w1.heap.size, by omega, rfl, by (repeat' (first | (with_reducible assumption) | (with_reducible refine Row.at _ _ ?_; (simp; done)) | (with_reducible refine Row.alloc ?_ _) | (with_reducible refine Row.drew ?_) | (with_reducible refine Row.drewN ?_ _) | (with_reducible refine Row.other ?_ (by first | (simp; done) | (simp; omega) | omega) _) | (with_reducible refine Row.up ?_ (by with_reducible assumption)) | (with_reducible refine Row.chg ?_ (by with_reducible assumption) (by first | (simp; done) | (simp; omega)))))⟩, by (repeat' (first | (with_reducible exact Up.refl _) | (with_reducible assumption) | (with_reducible refine Up.alloc ?_ _) | (with_reducible refine Up.drew ?_) | (with_reducible refine Up.drewN ?_ _) | (with_reducible refine Up.setCell ?_ ?_ _) | (with_reducible refine Up.call ?_ (by with_reducible assumption)) | go_size))⟩
  · have dz : (re == 0) = false := by simpa using z
    have HZ := Lib.hid z
    clear z
    go_enter Tryd.func10, Tryd.ntmps10
    go_wp2_with (first
      | (go_at_call 7; ((with_reducible refine (known_3 _).mono ?_); rintro E w0 ⟨rfl, rfl⟩))
      | (go_at_call 16; ((with_reducible refine (one_3 k x a n s r f l _ _ _ _ HR.out).mono ?_); rintro E w1 ⟨rfl, hu1⟩; have k_w1 := hu1.cells.1; have f_w1 := hu1.cells.2; have z_w1 := hu1.size; (try simp at z_w1); have l0_w1 : w.heap.size < w1.heap.size := (by omega); (try clear q0 y0 q1 y1 q2 y2 q3 y3 q4 y4 q5 y5 q6 y6 q7 y7); have RZ_w1 : Row w1 (w.heap.size) #[.int .i64 0, .bool false, .int .i64 0, .int .i64 0, .string ⟨#[]⟩, .int .i64 0, .int .i64 0, .int .i64 0] := Row.up (by (repeat' (first | (with_reducible assumption) | (with_reducible refine Row.at _ _ ?_; (simp; done)) | (with_reducible refine Row.alloc ?_ _) | (with_reducible refine Row.drew ?_) | (with_reducible refine Row.drewN ?_ _) | (with_reducible refine Row.other ?_ (by first | (simp; done) | (simp; omega) | omega) _) | (with_reducible refine Row.up ?_ (by with_reducible assumption)) | (with_reducible refine Row.chg ?_ (by with_reducible assumption) (by first | (simp; done) | (simp; omega)))))) hu1; obtain ⟨q0, y0, q1, y1, q2, y2, q3, y3, q4, y4, q5, y5, q6, y6, q7, y7⟩ := zrow_out RZ_w1)))
    go_ret2
    exact ⟨Or.inr ⟨HZ.out, rfl⟩, by (repeat' (first | (with_reducible exact Up.refl _) | (with_reducible assumption) | (with_reducible refine Up.alloc ?_ _) | (with_reducible refine Up.drew ?_) | (with_reducible refine Up.drewN ?_ _) | (with_reducible refine Up.setCell ?_ ?_ _) | (with_reducible refine Up.call ?_ (by with_reducible assumption)) | go_size))⟩

set_option maxHeartbeats 1000000 in
theorem do_4 (k : Int) (x : Bool) (a n : Int) (s : ByteArray) (r f l : Int)  (g c : Nat) (w : World) (R : Cs w g #[.int .i64 k, .bool x, .int .i64 a, .int .i64 n, .string s, .int .i64 r, .int .i64 f, .int .i64 l]) (hg : g < w.heap.size) (rk rn re : Int) (hR : un 4 k n = (rk, rn, re)) :
    Calls Tryd.prog 10 #[.string ⟨#[114, 111, 117, 110, 100]⟩, .slice (some ⟨g, 0, none⟩) 1 c] w fun E w' => Gives w rk rn re E w' ∧ Up w w' := by
  have HR := Lib.hid hR
  have hg1 : g < w.heap.size + 1 := by omega
  have hgn : ¬ w.heap.size = g := by omega
  have c0 := R 0 _ rfl
  have c1 := R 1 _ rfl
  have c2 := R 2 _ rfl
  have c3 := R 3 _ rfl
  have c4 := R 4 _ rfl
  have c5 := R 5 _ rfl
  have c6 := R 6 _ rfl
  have c7 := R 7 _ rfl
  clear R hR
  by_cases z : re = 0
  · subst z
    go_enter Tryd.func10, Tryd.ntmps10
    go_wp2_with (first
      | (go_at_call 7; ((with_reducible refine (known_4 _).mono ?_); rintro E w0 ⟨rfl, rfl⟩))
      | (go_at_call 16; ((with_reducible refine (one_4 k x a n s r f l _ _ _ _ HR.out).mono ?_); rintro E w1 ⟨rfl, hu1⟩; have k_w1 := hu1.cells.1; have f_w1 := hu1.cells.2; have z_w1 := hu1.size; (try simp at z_w1); have l0_w1 : w.heap.size < w1.heap.size := (by omega); (try clear q0 y0 q1 y1 q2 y2 q3 y3 q4 y4 q5 y5 q6 y6 q7 y7); have RZ_w1 : Row w1 (w.heap.size) #[.int .i64 0, .bool false, .int .i64 0, .int .i64 0, .string ⟨#[]⟩, .int .i64 0, .int .i64 0, .int .i64 0] := Row.up (by (repeat' (first | (with_reducible assumption) | (with_reducible refine Row.at _ _ ?_; (simp; done)) | (with_reducible refine Row.alloc ?_ _) | (with_reducible refine Row.drew ?_) | (with_reducible refine Row.drewN ?_ _) | (with_reducible refine Row.other ?_ (by first | (simp; done) | (simp; omega) | omega) _) | (with_reducible refine Row.up ?_ (by with_reducible assumption)) | (with_reducible refine Row.chg ?_ (by with_reducible assumption) (by first | (simp; done) | (simp; omega)))))) hu1; obtain ⟨q0, y0, q1, y1, q2, y2, q3, y3, q4, y4, q5, y5, q6, y6, q7, y7⟩ := zrow_out RZ_w1)))
    go_ret2
    exact ⟨Or.inl ⟨rfl, w1.heap.size, by omega, rfl, by (repeat' (first | (with_reducible assumption) | (with_reducible refine Row.at _ _ ?_; (simp; done)) | (with_reducible refine Row.alloc ?_ _) | (with_reducible refine Row.drew ?_) | (with_reducible refine Row.drewN ?_ _) | (with_reducible refine Row.other ?_ (by first | (simp; done) | (simp; omega) | omega) _) | (with_reducible refine Row.up ?_ (by with_reducible assumption)) | (with_reducible refine Row.chg ?_ (by with_reducible assumption) (by first | (simp; done) | (simp; omega)))))⟩, by (repeat' (first | (with_reducible exact Up.refl _) | (with_reducible assumption) | (with_reducible refine Up.alloc ?_ _) | (with_reducible refine Up.drew ?_) | (with_reducible refine Up.drewN ?_ _) | (with_reducible refine Up.setCell ?_ ?_ _) | (with_reducible refine Up.call ?_ (by with_reducible assumption)) | go_size))⟩
  · have dz : (re == 0) = false := by simpa using z
    have HZ := Lib.hid z
    clear z
    go_enter Tryd.func10, Tryd.ntmps10
    go_wp2_with (first
      | (go_at_call 7; ((with_reducible refine (known_4 _).mono ?_); rintro E w0 ⟨rfl, rfl⟩))
      | (go_at_call 16; ((with_reducible refine (one_4 k x a n s r f l _ _ _ _ HR.out).mono ?_); rintro E w1 ⟨rfl, hu1⟩; have k_w1 := hu1.cells.1; have f_w1 := hu1.cells.2; have z_w1 := hu1.size; (try simp at z_w1); have l0_w1 : w.heap.size < w1.heap.size := (by omega); (try clear q0 y0 q1 y1 q2 y2 q3 y3 q4 y4 q5 y5 q6 y6 q7 y7); have RZ_w1 : Row w1 (w.heap.size) #[.int .i64 0, .bool false, .int .i64 0, .int .i64 0, .string ⟨#[]⟩, .int .i64 0, .int .i64 0, .int .i64 0] := Row.up (by (repeat' (first | (with_reducible assumption) | (with_reducible refine Row.at _ _ ?_; (simp; done)) | (with_reducible refine Row.alloc ?_ _) | (with_reducible refine Row.drew ?_) | (with_reducible refine Row.drewN ?_ _) | (with_reducible refine Row.other ?_ (by first | (simp; done) | (simp; omega) | omega) _) | (with_reducible refine Row.up ?_ (by with_reducible assumption)) | (with_reducible refine Row.chg ?_ (by with_reducible assumption) (by first | (simp; done) | (simp; omega)))))) hu1; obtain ⟨q0, y0, q1, y1, q2, y2, q3, y3, q4, y4, q5, y5, q6, y6, q7, y7⟩ := zrow_out RZ_w1)))
    go_ret2
    exact ⟨Or.inr ⟨HZ.out, rfl⟩, by (repeat' (first | (with_reducible exact Up.refl _) | (with_reducible assumption) | (with_reducible refine Up.alloc ?_ _) | (with_reducible refine Up.drew ?_) | (with_reducible refine Up.drewN ?_ _) | (with_reducible refine Up.setCell ?_ ?_ _) | (with_reducible refine Up.call ?_ (by with_reducible assumption)) | go_size))⟩

set_option maxHeartbeats 1000000 in
theorem do_5 (k : Int) (x : Bool) (a n : Int) (s : ByteArray) (r f l : Int)  (g c : Nat) (w : World) (R : Cs w g #[.int .i64 k, .bool x, .int .i64 a, .int .i64 n, .string s, .int .i64 r, .int .i64 f, .int .i64 l]) (hg : g < w.heap.size) (rk rn re : Int) (hR : un 5 k n = (rk, rn, re)) :
    Calls Tryd.prog 10 #[.string ⟨#[116, 114, 117, 110, 99, 97, 116, 101]⟩, .slice (some ⟨g, 0, none⟩) 1 c] w fun E w' => Gives w rk rn re E w' ∧ Up w w' := by
  have HR := Lib.hid hR
  have hg1 : g < w.heap.size + 1 := by omega
  have hgn : ¬ w.heap.size = g := by omega
  have c0 := R 0 _ rfl
  have c1 := R 1 _ rfl
  have c2 := R 2 _ rfl
  have c3 := R 3 _ rfl
  have c4 := R 4 _ rfl
  have c5 := R 5 _ rfl
  have c6 := R 6 _ rfl
  have c7 := R 7 _ rfl
  clear R hR
  by_cases z : re = 0
  · subst z
    go_enter Tryd.func10, Tryd.ntmps10
    go_wp2_with (first
      | (go_at_call 7; ((with_reducible refine (known_5 _).mono ?_); rintro E w0 ⟨rfl, rfl⟩))
      | (go_at_call 16; ((with_reducible refine (one_5 k x a n s r f l _ _ _ _ HR.out).mono ?_); rintro E w1 ⟨rfl, hu1⟩; have k_w1 := hu1.cells.1; have f_w1 := hu1.cells.2; have z_w1 := hu1.size; (try simp at z_w1); have l0_w1 : w.heap.size < w1.heap.size := (by omega); (try clear q0 y0 q1 y1 q2 y2 q3 y3 q4 y4 q5 y5 q6 y6 q7 y7); have RZ_w1 : Row w1 (w.heap.size) #[.int .i64 0, .bool false, .int .i64 0, .int .i64 0, .string ⟨#[]⟩, .int .i64 0, .int .i64 0, .int .i64 0] := Row.up (by (repeat' (first | (with_reducible assumption) | (with_reducible refine Row.at _ _ ?_; (simp; done)) | (with_reducible refine Row.alloc ?_ _) | (with_reducible refine Row.drew ?_) | (with_reducible refine Row.drewN ?_ _) | (with_reducible refine Row.other ?_ (by first | (simp; done) | (simp; omega) | omega) _) | (with_reducible refine Row.up ?_ (by with_reducible assumption)) | (with_reducible refine Row.chg ?_ (by with_reducible assumption) (by first | (simp; done) | (simp; omega)))))) hu1; obtain ⟨q0, y0, q1, y1, q2, y2, q3, y3, q4, y4, q5, y5, q6, y6, q7, y7⟩ := zrow_out RZ_w1)))
    go_ret2
    exact ⟨Or.inl ⟨rfl, w1.heap.size, by omega, rfl, by (repeat' (first | (with_reducible assumption) | (with_reducible refine Row.at _ _ ?_; (simp; done)) | (with_reducible refine Row.alloc ?_ _) | (with_reducible refine Row.drew ?_) | (with_reducible refine Row.drewN ?_ _) | (with_reducible refine Row.other ?_ (by first | (simp; done) | (simp; omega) | omega) _) | (with_reducible refine Row.up ?_ (by with_reducible assumption)) | (with_reducible refine Row.chg ?_ (by with_reducible assumption) (by first | (simp; done) | (simp; omega)))))⟩, by (repeat' (first | (with_reducible exact Up.refl _) | (with_reducible assumption) | (with_reducible refine Up.alloc ?_ _) | (with_reducible refine Up.drew ?_) | (with_reducible refine Up.drewN ?_ _) | (with_reducible refine Up.setCell ?_ ?_ _) | (with_reducible refine Up.call ?_ (by with_reducible assumption)) | go_size))⟩
  · have dz : (re == 0) = false := by simpa using z
    have HZ := Lib.hid z
    clear z
    go_enter Tryd.func10, Tryd.ntmps10
    go_wp2_with (first
      | (go_at_call 7; ((with_reducible refine (known_5 _).mono ?_); rintro E w0 ⟨rfl, rfl⟩))
      | (go_at_call 16; ((with_reducible refine (one_5 k x a n s r f l _ _ _ _ HR.out).mono ?_); rintro E w1 ⟨rfl, hu1⟩; have k_w1 := hu1.cells.1; have f_w1 := hu1.cells.2; have z_w1 := hu1.size; (try simp at z_w1); have l0_w1 : w.heap.size < w1.heap.size := (by omega); (try clear q0 y0 q1 y1 q2 y2 q3 y3 q4 y4 q5 y5 q6 y6 q7 y7); have RZ_w1 : Row w1 (w.heap.size) #[.int .i64 0, .bool false, .int .i64 0, .int .i64 0, .string ⟨#[]⟩, .int .i64 0, .int .i64 0, .int .i64 0] := Row.up (by (repeat' (first | (with_reducible assumption) | (with_reducible refine Row.at _ _ ?_; (simp; done)) | (with_reducible refine Row.alloc ?_ _) | (with_reducible refine Row.drew ?_) | (with_reducible refine Row.drewN ?_ _) | (with_reducible refine Row.other ?_ (by first | (simp; done) | (simp; omega) | omega) _) | (with_reducible refine Row.up ?_ (by with_reducible assumption)) | (with_reducible refine Row.chg ?_ (by with_reducible assumption) (by first | (simp; done) | (simp; omega)))))) hu1; obtain ⟨q0, y0, q1, y1, q2, y2, q3, y3, q4, y4, q5, y5, q6, y6, q7, y7⟩ := zrow_out RZ_w1)))
    go_ret2
    exact ⟨Or.inr ⟨HZ.out, rfl⟩, by (repeat' (first | (with_reducible exact Up.refl _) | (with_reducible assumption) | (with_reducible refine Up.alloc ?_ _) | (with_reducible refine Up.drew ?_) | (with_reducible refine Up.drewN ?_ _) | (with_reducible refine Up.setCell ?_ ?_ _) | (with_reducible refine Up.call ?_ (by with_reducible assumption)) | go_size))⟩

set_option maxHeartbeats 1000000 in
theorem do_9 (k : Int) (x : Bool) (a n : Int) (s : ByteArray) (r f l : Int)  (g c : Nat) (w : World) (R : Cs w g #[.int .i64 k, .bool x, .int .i64 a, .int .i64 n, .string s, .int .i64 r, .int .i64 f, .int .i64 l]) (hg : g < w.heap.size) (rk rn re : Int) (hR : un 9 k n = (rk, rn, re)) :
    Calls Tryd.prog 10 #[.string ⟨#[110, 111, 116]⟩, .slice (some ⟨g, 0, none⟩) 1 c] w fun E w' => Gives w rk rn re E w' ∧ Up w w' := by
  have HR := Lib.hid hR
  have hg1 : g < w.heap.size + 1 := by omega
  have hgn : ¬ w.heap.size = g := by omega
  have c0 := R 0 _ rfl
  have c1 := R 1 _ rfl
  have c2 := R 2 _ rfl
  have c3 := R 3 _ rfl
  have c4 := R 4 _ rfl
  have c5 := R 5 _ rfl
  have c6 := R 6 _ rfl
  have c7 := R 7 _ rfl
  clear R hR
  by_cases z : re = 0
  · subst z
    go_enter Tryd.func10, Tryd.ntmps10
    go_wp2_with (first
      | (go_at_call 7; ((with_reducible refine (known_9 _).mono ?_); rintro E w0 ⟨rfl, rfl⟩))
      | (go_at_call 16; ((with_reducible refine (one_9 k x a n s r f l _ _ _ _ HR.out).mono ?_); rintro E w1 ⟨rfl, hu1⟩; have k_w1 := hu1.cells.1; have f_w1 := hu1.cells.2; have z_w1 := hu1.size; (try simp at z_w1); have l0_w1 : w.heap.size < w1.heap.size := (by omega); (try clear q0 y0 q1 y1 q2 y2 q3 y3 q4 y4 q5 y5 q6 y6 q7 y7); have RZ_w1 : Row w1 (w.heap.size) #[.int .i64 0, .bool false, .int .i64 0, .int .i64 0, .string ⟨#[]⟩, .int .i64 0, .int .i64 0, .int .i64 0] := Row.up (by (repeat' (first | (with_reducible assumption) | (with_reducible refine Row.at _ _ ?_; (simp; done)) | (with_reducible refine Row.alloc ?_ _) | (with_reducible refine Row.drew ?_) | (with_reducible refine Row.drewN ?_ _) | (with_reducible refine Row.other ?_ (by first | (simp; done) | (simp; omega) | omega) _) | (with_reducible refine Row.up ?_ (by with_reducible assumption)) | (with_reducible refine Row.chg ?_ (by with_reducible assumption) (by first | (simp; done) | (simp; omega)))))) hu1; obtain ⟨q0, y0, q1, y1, q2, y2, q3, y3, q4, y4, q5, y5, q6, y6, q7, y7⟩ := zrow_out RZ_w1)))
    go_ret2
    exact ⟨Or.inl ⟨rfl, w1.heap.size, by omega, rfl, by (repeat' (first | (with_reducible assumption) | (with_reducible refine Row.at _ _ ?_; (simp; done)) | (with_reducible refine Row.alloc ?_ _) | (with_reducible refine Row.drew ?_) | (with_reducible refine Row.drewN ?_ _) | (with_reducible refine Row.other ?_ (by first | (simp; done) | (simp; omega) | omega) _) | (with_reducible refine Row.up ?_ (by with_reducible assumption)) | (with_reducible refine Row.chg ?_ (by with_reducible assumption) (by first | (simp; done) | (simp; omega)))))⟩, by (repeat' (first | (with_reducible exact Up.refl _) | (with_reducible assumption) | (with_reducible refine Up.alloc ?_ _) | (with_reducible refine Up.drew ?_) | (with_reducible refine Up.drewN ?_ _) | (with_reducible refine Up.setCell ?_ ?_ _) | (with_reducible refine Up.call ?_ (by with_reducible assumption)) | go_size))⟩
  · have dz : (re == 0) = false := by simpa using z
    have HZ := Lib.hid z
    clear z
    go_enter Tryd.func10, Tryd.ntmps10
    go_wp2_with (first
      | (go_at_call 7; ((with_reducible refine (known_9 _).mono ?_); rintro E w0 ⟨rfl, rfl⟩))
      | (go_at_call 16; ((with_reducible refine (one_9 k x a n s r f l _ _ _ _ HR.out).mono ?_); rintro E w1 ⟨rfl, hu1⟩; have k_w1 := hu1.cells.1; have f_w1 := hu1.cells.2; have z_w1 := hu1.size; (try simp at z_w1); have l0_w1 : w.heap.size < w1.heap.size := (by omega); (try clear q0 y0 q1 y1 q2 y2 q3 y3 q4 y4 q5 y5 q6 y6 q7 y7); have RZ_w1 : Row w1 (w.heap.size) #[.int .i64 0, .bool false, .int .i64 0, .int .i64 0, .string ⟨#[]⟩, .int .i64 0, .int .i64 0, .int .i64 0] := Row.up (by (repeat' (first | (with_reducible assumption) | (with_reducible refine Row.at _ _ ?_; (simp; done)) | (with_reducible refine Row.alloc ?_ _) | (with_reducible refine Row.drew ?_) | (with_reducible refine Row.drewN ?_ _) | (with_reducible refine Row.other ?_ (by first | (simp; done) | (simp; omega) | omega) _) | (with_reducible refine Row.up ?_ (by with_reducible assumption)) | (with_reducible refine Row.chg ?_ (by with_reducible assumption) (by first | (simp; done) | (simp; omega)))))) hu1; obtain ⟨q0, y0, q1, y1, q2, y2, q3, y3, q4, y4, q5, y5, q6, y6, q7, y7⟩ := zrow_out RZ_w1)))
    go_ret2
    exact ⟨Or.inr ⟨HZ.out, rfl⟩, by (repeat' (first | (with_reducible exact Up.refl _) | (with_reducible assumption) | (with_reducible refine Up.alloc ?_ _) | (with_reducible refine Up.drew ?_) | (with_reducible refine Up.drewN ?_ _) | (with_reducible refine Up.setCell ?_ ?_ _) | (with_reducible refine Up.call ?_ (by with_reducible assumption)) | go_size))⟩

end Go.Proofs.YtakickodehebmaaDoor.Ar
