/- sqrt, sin, cos; which operators there are not; operands of another number: package arith. -/
import Derived.Test.YtakickodehebmaaDoorArN
import Derived.Test.YtakickodehebmaaDoorTurn3
import Derived.Deep.Cut
namespace Go.Proofs.YtakickodehebmaaDoor.Ar
open Go.ChangeShapes Go.WideShapes Go.ChangeAt Go.RowKit
open Go.Proofs.YtakickodehebmaaDoor.FixM (fits within)
open Go.Proofs.YtakickodehebmaaDoor.ArM
set_option linter.unusedVariables false
set_option linter.unusedSimpArgs false

theorem rotate_t (p a0 a1 a2 a3 a4 a5 e : Int) (h : TurnM.rot p = (⟨a0, a1, a2, a3, a4, a5⟩, e)) (w : World) (hT : Turn.Tab w) :
    Calls Tryd.prog 67 #[.int .i64 p] w fun E w' => E = .returned (.tuple #[.agg #[.int .i64 a0, .int .i64 a1, .int .i64 a2, .int .i64 a3, .int .i64 a4, .int .i64 a5], .int .i64 e]) ∧ Up w w' := by
  refine (Turn.rotate_calls p w hT).mono fun E w' hh => ?_
  rw [h] at hh
  exact hh

set_option maxHeartbeats 8000000 in
theorem curves_6 (k : Int) (x : Bool) (a n : Int) (s : ByteArray) (r f l : Int) (w : World) (hT : Turn.Tab w) (rk rn re : Int) (hR : curves 6 k n = (rk, rn, re)) :
    Calls Tryd.prog 43 #[.string ⟨#[115, 113, 114, 116]⟩, .agg #[.int .i64 k, .bool x, .int .i64 a, .int .i64 n, .string s, .int .i64 r, .int .i64 f, .int .i64 l]] w fun E w' => E = .returned (.tuple #[.agg #[.int .i64 rk, .bool false, .int .i64 0, .int .i64 rn, .string ⟨#[]⟩, .int .i64 0, .int .i64 0, .int .i64 0], .int .i64 re]) ∧ Up w w' := by
  have HT := Lib.hid hT
  clear hT
  obtain ⟨p, q, hpq⟩ : ∃ p q, asReal k n = (p, q) := ⟨_, _, rfl⟩
  by_cases hq : q = 0
  · subst hq
    obtain ⟨m, e, hm1, hm2⟩ : ∃ m e, (FixM.sqrt p).1 = m ∧ (FixM.sqrt p).2 = e := ⟨_, _, rfl, rfl⟩
    have hG : real (m, e) = (rk, rn, re) := by rw [← hm1, ← hm2]; simpa [curves, hpq] using hR
    have HM2 := Lib.hid hm2
    clear hm2
    have HM1 := Lib.hid hm1
    have HPQ := Lib.hid hpq
    clear hR hpq hm1
    by_cases he : e = 0
    · subst he
      obtain ⟨rfl, rfl, rfl⟩ : 2 = rk ∧ m = rn ∧ 0 = re := by simpa [real] using hG
      clear hG
      go_enter Tryd.func43, Tryd.ntmps43
      go_wp2_with (first
        | (go_at_call 63; ((with_reducible refine (asReal_calls k x a n s r f l _ p 0 HPQ.out).mono ?_); rintro E w1 ⟨rfl, hu1⟩; have k_w1 := hu1.cells.1; have f_w1 := hu1.cells.2; have z_w1 := hu1.size; (try simp at z_w1); have l0_w1 : w.heap.size < w1.heap.size := (by omega); have l1_w1 : w.heap.size + 1 < w1.heap.size := (by omega); (try clear q0 y0 q1 y1 q2 y2 q3 y3 q4 y4 q5 y5 q6 y6 q7 y7); have RZ_w1 : Row w1 (w.heap.size + 1) #[.int .i64 0, .bool false, .int .i64 0, .int .i64 0, .string ⟨#[]⟩, .int .i64 0, .int .i64 0, .int .i64 0] := Row.up (by (repeat' (first | (with_reducible assumption) | (with_reducible refine Row.at _ _ ?_; (simp; done)) | (with_reducible refine Row.alloc ?_ _) | (with_reducible refine Row.drew ?_) | (with_reducible refine Row.drewN ?_ _) | (with_reducible refine Row.other ?_ (by first | (simp; done) | (simp; omega) | omega) _) | (with_reducible refine Row.up ?_ (by with_reducible assumption)) | (with_reducible refine Row.chg ?_ (by with_reducible assumption) (by first | (simp; done) | (simp; omega)))))) hu1; obtain ⟨q0, y0, q1, y1, q2, y2, q3, y3, q4, y4, q5, y5, q6, y6, q7, y7⟩ := zrow_out RZ_w1))
        | (go_at_call 66; ((with_reducible refine (Fix.sqrt_calls _ _).mono ?_); rw [HM1.out, HM2.out]; rintro E w4 ⟨rfl, rfl⟩))
        | (go_at_call 65; ((with_reducible refine (real_calls _ _).mono ?_); rintro E w7 ⟨rfl, hu7⟩; have k_w7 := hu7.cells.1; have f_w7 := hu7.cells.2; have z_w7 := hu7.size; (try simp at z_w7); have l0_w7 : w.heap.size < w7.heap.size := (by omega); have l1_w7 : w.heap.size + 1 < w7.heap.size := (by omega); (try clear q0 y0 q1 y1 q2 y2 q3 y3 q4 y4 q5 y5 q6 y6 q7 y7); have RZ_w7 : Row w7 (w.heap.size + 1) #[.int .i64 0, .bool false, .int .i64 0, .int .i64 0, .string ⟨#[]⟩, .int .i64 0, .int .i64 0, .int .i64 0] := Row.up (by (repeat' (first | (with_reducible assumption) | (with_reducible refine Row.at _ _ ?_; (simp; done)) | (with_reducible refine Row.alloc ?_ _) | (with_reducible refine Row.drew ?_) | (with_reducible refine Row.drewN ?_ _) | (with_reducible refine Row.other ?_ (by first | (simp; done) | (simp; omega) | omega) _) | (with_reducible refine Row.up ?_ (by with_reducible assumption)) | (with_reducible refine Row.chg ?_ (by with_reducible assumption) (by first | (simp; done) | (simp; omega)))))) hu7; obtain ⟨q0, y0, q1, y1, q2, y2, q3, y3, q4, y4, q5, y5, q6, y6, q7, y7⟩ := zrow_out RZ_w7)))
      (try simp only [Exit.inBlock, Exit.then])
      refine bodyPost_ret (results_oe rfl _ _ (w.heap.size + 1) _ false 0 _ ⟨#[]⟩ 0 0 0 (by apply cast; (case h => (repeat (first | (with_reducible assumption) | (with_reducible apply Row.at; (simp; done)) | (with_reducible apply Row.alloc) | (with_reducible apply Row.drew) | (with_reducible apply Row.drewN) | (with_reducible apply Row.set) | ((with_reducible apply Row.other); (case hp => first | (simp; done) | (simp; omega) | omega))))); (case e => rfl)) rfl) rfl ?_
      exact ⟨rfl, by (repeat' (first | (with_reducible exact Up.refl _) | (with_reducible assumption) | (with_reducible refine Up.alloc ?_ _) | (with_reducible refine Up.drew ?_) | (with_reducible refine Up.drewN ?_ _) | (with_reducible refine Up.setCell ?_ ?_ _) | (with_reducible refine Up.call ?_ (by with_reducible assumption)) | go_size))⟩
    · obtain ⟨rfl, rfl, rfl⟩ : 0 = rk ∧ 0 = rn ∧ e = re := by simpa [real, he] using hG
      have de : (e == 0) = false := by simpa using he
      clear hG he
      go_enter Tryd.func43, Tryd.ntmps43
      go_wp2_with (first
        | (go_at_call 63; ((with_reducible refine (asReal_calls k x a n s r f l _ p 0 HPQ.out).mono ?_); rintro E w1 ⟨rfl, hu1⟩; have k_w1 := hu1.cells.1; have f_w1 := hu1.cells.2; have z_w1 := hu1.size; (try simp at z_w1); have l0_w1 : w.heap.size < w1.heap.size := (by omega); have l1_w1 : w.heap.size + 1 < w1.heap.size := (by omega); (try clear q0 y0 q1 y1 q2 y2 q3 y3 q4 y4 q5 y5 q6 y6 q7 y7); have RZ_w1 : Row w1 (w.heap.size + 1) #[.int .i64 0, .bool false, .int .i64 0, .int .i64 0, .string ⟨#[]⟩, .int .i64 0, .int .i64 0, .int .i64 0] := Row.up (by (repeat' (first | (with_reducible assumption) | (with_reducible refine Row.at _ _ ?_; (simp; done)) | (with_reducible refine Row.alloc ?_ _) | (with_reducible refine Row.drew ?_) | (with_reducible refine Row.drewN ?_ _) | (with_reducible refine Row.other ?_ (by first | (simp; done) | (simp; omega) | omega) _) | (with_reducible refine Row.up ?_ (by with_reducible assumption)) | (with_reducible refine Row.chg ?_ (by with_reducible assumption) (by first | (simp; done) | (simp; omega)))))) hu1; obtain ⟨q0, y0, q1, y1, q2, y2, q3, y3, q4, y4, q5, y5, q6, y6, q7, y7⟩ := zrow_out RZ_w1))
        | (go_at_call 66; ((with_reducible refine (Fix.sqrt_calls _ _).mono ?_); rw [HM1.out, HM2.out]; rintro E w4 ⟨rfl, rfl⟩)))
      (try simp only [Exit.inBlock, Exit.then])
      refine bodyPost_ret (results_oe rfl _ _ (w.heap.size + 1) _ false 0 _ ⟨#[]⟩ 0 0 0 (by apply cast; (case h => (repeat (first | (with_reducible assumption) | (with_reducible apply Row.at; (simp; done)) | (with_reducible apply Row.alloc) | (with_reducible apply Row.drew) | (with_reducible apply Row.drewN) | (with_reducible apply Row.set) | ((with_reducible apply Row.other); (case hp => first | (simp; done) | (simp; omega) | omega))))); (case e => rfl)) rfl) rfl ?_
      exact ⟨rfl, by (repeat' (first | (with_reducible exact Up.refl _) | (with_reducible assumption) | (with_reducible refine Up.alloc ?_ _) | (with_reducible refine Up.drew ?_) | (with_reducible refine Up.drewN ?_ _) | (with_reducible refine Up.setCell ?_ ?_ _) | (with_reducible refine Up.call ?_ (by with_reducible assumption)) | go_size))⟩
  · obtain ⟨rfl, rfl, rfl⟩ : 0 = rk ∧ 0 = rn ∧ q = re := by simpa [curves, hpq, hq] using hR
    have de : (q == 0) = false := by simpa using hq
    have HPQ := Lib.hid hpq
    clear hR hpq hq
    go_enter Tryd.func43, Tryd.ntmps43
    go_wp2_with (first
      | (go_at_call 63; ((with_reducible refine (asReal_calls k x a n s r f l _ p q HPQ.out).mono ?_); rintro E w1 ⟨rfl, hu1⟩; have k_w1 := hu1.cells.1; have f_w1 := hu1.cells.2; have z_w1 := hu1.size; (try simp at z_w1); have l0_w1 : w.heap.size < w1.heap.size := (by omega); have l1_w1 : w.heap.size + 1 < w1.heap.size := (by omega); (try clear q0 y0 q1 y1 q2 y2 q3 y3 q4 y4 q5 y5 q6 y6 q7 y7); have RZ_w1 : Row w1 (w.heap.size + 1) #[.int .i64 0, .bool false, .int .i64 0, .int .i64 0, .string ⟨#[]⟩, .int .i64 0, .int .i64 0, .int .i64 0] := Row.up (by (repeat' (first | (with_reducible assumption) | (with_reducible refine Row.at _ _ ?_; (simp; done)) | (with_reducible refine Row.alloc ?_ _) | (with_reducible refine Row.drew ?_) | (with_reducible refine Row.drewN ?_ _) | (with_reducible refine Row.other ?_ (by first | (simp; done) | (simp; omega) | omega) _) | (with_reducible refine Row.up ?_ (by with_reducible assumption)) | (with_reducible refine Row.chg ?_ (by with_reducible assumption) (by first | (simp; done) | (simp; omega)))))) hu1; obtain ⟨q0, y0, q1, y1, q2, y2, q3, y3, q4, y4, q5, y5, q6, y6, q7, y7⟩ := zrow_out RZ_w1)))
    (try simp only [Exit.inBlock, Exit.then])
    refine bodyPost_ret (results_oe rfl _ _ (w.heap.size + 1) _ false 0 _ ⟨#[]⟩ 0 0 0 (by apply cast; (case h => (repeat (first | (with_reducible assumption) | (with_reducible apply Row.at; (simp; done)) | (with_reducible apply Row.alloc) | (with_reducible apply Row.drew) | (with_reducible apply Row.drewN) | (with_reducible apply Row.set) | ((with_reducible apply Row.other); (case hp => first | (simp; done) | (simp; omega) | omega))))); (case e => rfl)) rfl) rfl ?_
    exact ⟨rfl, by (repeat' (first | (with_reducible exact Up.refl _) | (with_reducible assumption) | (with_reducible refine Up.alloc ?_ _) | (with_reducible refine Up.drew ?_) | (with_reducible refine Up.drewN ?_ _) | (with_reducible refine Up.setCell ?_ ?_ _) | (with_reducible refine Up.call ?_ (by with_reducible assumption)) | go_size))⟩

set_option maxHeartbeats 8000000 in
theorem curves_7 (k : Int) (x : Bool) (a n : Int) (s : ByteArray) (r f l : Int) (w : World) (hT : Turn.Tab w) (rk rn re : Int) (hR : curves 7 k n = (rk, rn, re)) :
    Calls Tryd.prog 43 #[.string ⟨#[115, 105, 110]⟩, .agg #[.int .i64 k, .bool x, .int .i64 a, .int .i64 n, .string s, .int .i64 r, .int .i64 f, .int .i64 l]] w fun E w' => E = .returned (.tuple #[.agg #[.int .i64 rk, .bool false, .int .i64 0, .int .i64 rn, .string ⟨#[]⟩, .int .i64 0, .int .i64 0, .int .i64 0], .int .i64 re]) ∧ Up w w' := by
  have HT := Lib.hid hT
  clear hT
  obtain ⟨p, q, hpq⟩ : ∃ p q, asReal k n = (p, q) := ⟨_, _, rfl⟩
  by_cases hq : q = 0
  · subst hq
    obtain ⟨⟨a0, a1, a2, a3, a4, a5⟩, e, hm1⟩ : ∃ M e, TurnM.rot p = (M, e) := ⟨_, _, rfl⟩
    have hG : real (a1, e) = (rk, rn, re) := by rw [← hR]; simp [curves, hpq, hm1]
    have HM1 := Lib.hid hm1
    have HPQ := Lib.hid hpq
    clear hR hpq hm1
    by_cases he : e = 0
    · subst he
      obtain ⟨rfl, rfl, rfl⟩ : 2 = rk ∧ a1 = rn ∧ 0 = re := by simpa [real] using hG
      clear hG
      go_enter Tryd.func43, Tryd.ntmps43
      go_wp2_with (first
        | (go_at_call 63; ((with_reducible refine (asReal_calls k x a n s r f l _ p 0 HPQ.out).mono ?_); rintro E w1 ⟨rfl, hu1⟩; have k_w1 := hu1.cells.1; have f_w1 := hu1.cells.2; have z_w1 := hu1.size; (try simp at z_w1); have l0_w1 : w.heap.size < w1.heap.size := (by omega); have l1_w1 : w.heap.size + 1 < w1.heap.size := (by omega); (try clear q0 y0 q1 y1 q2 y2 q3 y3 q4 y4 q5 y5 q6 y6 q7 y7); have RZ_w1 : Row w1 (w.heap.size + 1) #[.int .i64 0, .bool false, .int .i64 0, .int .i64 0, .string ⟨#[]⟩, .int .i64 0, .int .i64 0, .int .i64 0] := Row.up (by (repeat' (first | (with_reducible assumption) | (with_reducible refine Row.at _ _ ?_; (simp; done)) | (with_reducible refine Row.alloc ?_ _) | (with_reducible refine Row.drew ?_) | (with_reducible refine Row.drewN ?_ _) | (with_reducible refine Row.other ?_ (by first | (simp; done) | (simp; omega) | omega) _) | (with_reducible refine Row.up ?_ (by with_reducible assumption)) | (with_reducible refine Row.chg ?_ (by with_reducible assumption) (by first | (simp; done) | (simp; omega)))))) hu1; obtain ⟨q0, y0, q1, y1, q2, y2, q3, y3, q4, y4, q5, y5, q6, y6, q7, y7⟩ := zrow_out RZ_w1))
        | (go_at_call 67; ((with_reducible refine (rotate_t p _ _ _ _ _ _ _ HM1.out _ (HT.out.up (by (repeat' (first | (with_reducible exact Up.refl _) | (with_reducible assumption) | (with_reducible refine Up.alloc ?_ _) | (with_reducible refine Up.drew ?_) | (with_reducible refine Up.drewN ?_ _) | (with_reducible refine Up.setCell ?_ ?_ _) | (with_reducible refine Up.call ?_ (by with_reducible assumption)) | go_size))))).mono ?_); rintro E w4 ⟨rfl, hu4⟩; have k_w4 := hu4.cells.1; have f_w4 := hu4.cells.2; have z_w4 := hu4.size; (try simp at z_w4); have l0_w4 : w.heap.size < w4.heap.size := (by omega); have l1_w4 : w.heap.size + 1 < w4.heap.size := (by omega); have l2_w4 : w.heap.size + 1 + 1 < w4.heap.size := (by omega); have m2_w4 : w.heap.size + 2 < w4.heap.size := (by omega); (try clear q0 y0 q1 y1 q2 y2 q3 y3 q4 y4 q5 y5 q6 y6 q7 y7); have RZ_w4 : Row w4 (w.heap.size + 1) #[.int .i64 0, .bool false, .int .i64 0, .int .i64 0, .string ⟨#[]⟩, .int .i64 0, .int .i64 0, .int .i64 0] := Row.up (by (repeat' (first | (with_reducible assumption) | (with_reducible refine Row.at _ _ ?_; (simp; done)) | (with_reducible refine Row.alloc ?_ _) | (with_reducible refine Row.drew ?_) | (with_reducible refine Row.drewN ?_ _) | (with_reducible refine Row.other ?_ (by first | (simp; done) | (simp; omega) | omega) _) | (with_reducible refine Row.up ?_ (by with_reducible assumption)) | (with_reducible refine Row.chg ?_ (by with_reducible assumption) (by first | (simp; done) | (simp; omega)))))) hu4; obtain ⟨q0, y0, q1, y1, q2, y2, q3, y3, q4, y4, q5, y5, q6, y6, q7, y7⟩ := zrow_out RZ_w4))
        | (go_at_call 65; ((with_reducible refine (real_calls _ _).mono ?_); rintro E w7 ⟨rfl, hu7⟩; have k_w7 := hu7.cells.1; have f_w7 := hu7.cells.2; have z_w7 := hu7.size; (try simp at z_w7); have l0_w7 : w.heap.size < w7.heap.size := (by omega); have l1_w7 : w.heap.size + 1 < w7.heap.size := (by omega); (try clear q0 y0 q1 y1 q2 y2 q3 y3 q4 y4 q5 y5 q6 y6 q7 y7); have RZ_w7 : Row w7 (w.heap.size + 1) #[.int .i64 0, .bool false, .int .i64 0, .int .i64 0, .string ⟨#[]⟩, .int .i64 0, .int .i64 0, .int .i64 0] := Row.up (by (repeat' (first | (with_reducible assumption) | (with_reducible refine Row.at _ _ ?_; (simp; done)) | (with_reducible refine Row.alloc ?_ _) | (with_reducible refine Row.drew ?_) | (with_reducible refine Row.drewN ?_ _) | (with_reducible refine Row.other ?_ (by first | (simp; done) | (simp; omega) | omega) _) | (with_reducible refine Row.up ?_ (by with_reducible assumption)) | (with_reducible refine Row.chg ?_ (by with_reducible assumption) (by first | (simp; done) | (simp; omega)))))) hu7; obtain ⟨q0, y0, q1, y1, q2, y2, q3, y3, q4, y4, q5, y5, q6, y6, q7, y7⟩ := zrow_out RZ_w7)))
      (try simp only [Exit.inBlock, Exit.then])
      refine bodyPost_ret (results_oe rfl _ _ (w.heap.size + 1) _ false 0 _ ⟨#[]⟩ 0 0 0 (by apply cast; (case h => (repeat (first | (with_reducible assumption) | (with_reducible apply Row.at; (simp; done)) | (with_reducible apply Row.alloc) | (with_reducible apply Row.drew) | (with_reducible apply Row.drewN) | (with_reducible apply Row.set) | ((with_reducible apply Row.other); (case hp => first | (simp; done) | (simp; omega) | omega))))); (case e => rfl)) rfl) rfl ?_
      exact ⟨rfl, by (repeat' (first | (with_reducible exact Up.refl _) | (with_reducible assumption) | (with_reducible refine Up.alloc ?_ _) | (with_reducible refine Up.drew ?_) | (with_reducible refine Up.drewN ?_ _) | (with_reducible refine Up.setCell ?_ ?_ _) | (with_reducible refine Up.call ?_ (by with_reducible assumption)) | go_size))⟩
    · obtain ⟨rfl, rfl, rfl⟩ : 0 = rk ∧ 0 = rn ∧ e = re := by simpa [real, he] using hG
      have de : (e == 0) = false := by simpa using he
      clear hG he
      go_enter Tryd.func43, Tryd.ntmps43
      go_upto_region 11 with (first
        | (go_at_call 63; ((with_reducible refine (asReal_calls k x a n s r f l _ p 0 HPQ.out).mono ?_); rintro E w1 ⟨rfl, hu1⟩; have k_w1 := hu1.cells.1; have f_w1 := hu1.cells.2; have z_w1 := hu1.size; (try simp at z_w1); have l0_w1 : w.heap.size < w1.heap.size := (by omega); have l1_w1 : w.heap.size + 1 < w1.heap.size := (by omega); (try clear q0 y0 q1 y1 q2 y2 q3 y3 q4 y4 q5 y5 q6 y6 q7 y7); have RZ_w1 : Row w1 (w.heap.size + 1) #[.int .i64 0, .bool false, .int .i64 0, .int .i64 0, .string ⟨#[]⟩, .int .i64 0, .int .i64 0, .int .i64 0] := Row.up (by (repeat' (first | (with_reducible assumption) | (with_reducible refine Row.at _ _ ?_; (simp; done)) | (with_reducible refine Row.alloc ?_ _) | (with_reducible refine Row.drew ?_) | (with_reducible refine Row.drewN ?_ _) | (with_reducible refine Row.other ?_ (by first | (simp; done) | (simp; omega) | omega) _) | (with_reducible refine Row.up ?_ (by with_reducible assumption)) | (with_reducible refine Row.chg ?_ (by with_reducible assumption) (by first | (simp; done) | (simp; omega)))))) hu1; obtain ⟨q0, y0, q1, y1, q2, y2, q3, y3, q4, y4, q5, y5, q6, y6, q7, y7⟩ := zrow_out RZ_w1))
        | (go_at_call 67; ((with_reducible refine (rotate_t p _ _ _ _ _ _ _ HM1.out _ (HT.out.up (by (repeat' (first | (with_reducible exact Up.refl _) | (with_reducible assumption) | (with_reducible refine Up.alloc ?_ _) | (with_reducible refine Up.drew ?_) | (with_reducible refine Up.drewN ?_ _) | (with_reducible refine Up.setCell ?_ ?_ _) | (with_reducible refine Up.call ?_ (by with_reducible assumption)) | go_size))))).mono ?_); rintro E w4 ⟨rfl, hu4⟩; have k_w4 := hu4.cells.1; have f_w4 := hu4.cells.2; have z_w4 := hu4.size; (try simp at z_w4); have l0_w4 : w.heap.size < w4.heap.size := (by omega); have l1_w4 : w.heap.size + 1 < w4.heap.size := (by omega); have l2_w4 : w.heap.size + 1 + 1 < w4.heap.size := (by omega); have m2_w4 : w.heap.size + 2 < w4.heap.size := (by omega); (try clear q0 y0 q1 y1 q2 y2 q3 y3 q4 y4 q5 y5 q6 y6 q7 y7); have RZ_w4 : Row w4 (w.heap.size + 1) #[.int .i64 0, .bool false, .int .i64 0, .int .i64 0, .string ⟨#[]⟩, .int .i64 0, .int .i64 0, .int .i64 0] := Row.up (by (repeat' (first | (with_reducible assumption) | (with_reducible refine Row.at _ _ ?_; (simp; done)) | (with_reducible refine Row.alloc ?_ _) | (with_reducible refine Row.drew ?_) | (with_reducible refine Row.drewN ?_ _) | (with_reducible refine Row.other ?_ (by first | (simp; done) | (simp; omega) | omega) _) | (with_reducible refine Row.up ?_ (by with_reducible assumption)) | (with_reducible refine Row.chg ?_ (by with_reducible assumption) (by first | (simp; done) | (simp; omega)))))) hu4; obtain ⟨q0, y0, q1, y1, q2, y2, q3, y3, q4, y4, q5, y5, q6, y6, q7, y7⟩ := zrow_out RZ_w4)))
      generalize hW : World.setCell _ _ _ = w5
      have RZ5 : Row w5 (w.heap.size + 1) #[.int .i64 0, .bool false, .int .i64 0, .int .i64 0, .string ⟨#[]⟩, .int .i64 0, .int .i64 0, .int .i64 0] := by subst hW; (repeat' (first | (with_reducible assumption) | (with_reducible refine Row.at _ _ ?_; (simp; done)) | (with_reducible refine Row.alloc ?_ _) | (with_reducible refine Row.drew ?_) | (with_reducible refine Row.drewN ?_ _) | (with_reducible refine Row.other ?_ (by first | (simp; done) | (simp; omega) | omega) _) | (with_reducible refine Row.up ?_ (by with_reducible assumption)) | (with_reducible refine Row.chg ?_ (by with_reducible assumption) (by first | (simp; done) | (simp; omega)))))
      have HU5 : Up w w5 := by subst hW; (repeat' (first | (with_reducible exact Up.refl _) | (with_reducible assumption) | (with_reducible refine Up.alloc ?_ _) | (with_reducible refine Up.drew ?_) | (with_reducible refine Up.drewN ?_ _) | (with_reducible refine Up.setCell ?_ ?_ _) | (with_reducible refine Up.call ?_ (by with_reducible assumption)) | go_size))
      clear q0 q1 q2 q3 q4 q5 q6 q7 y0 y1 y2 y3 y4 y5 y6 y7 k_w4 f_w4 RZ_w4 k_w1 f_w1 RZ_w1
      have q0 := RZ5.cell 0 rfl
      have y0 := RZ5.free 0
      have q1 := RZ5.cell 1 rfl
      have y1 := RZ5.free 1
      have q2 := RZ5.cell 2 rfl
      have y2 := RZ5.free 2
      have q3 := RZ5.cell 3 rfl
      have y3 := RZ5.free 3
      have q4 := RZ5.cell 4 rfl
      have y4 := RZ5.free 4
      have q5 := RZ5.cell 5 rfl
      have y5 := RZ5.free 5
      have q6 := RZ5.cell 6 rfl
      have y6 := RZ5.free 6
      have q7 := RZ5.cell 7 rfl
      have y7 := RZ5.free 7
      go_wp2
      (try simp only [Exit.inBlock, Exit.then])
      refine bodyPost_ret (results_oe rfl _ _ (w.heap.size + 1) _ false 0 _ ⟨#[]⟩ 0 0 0 (by apply cast; (case h => (repeat (first | (with_reducible assumption) | (with_reducible apply Row.at; (simp; done)) | (with_reducible apply Row.alloc) | (with_reducible apply Row.drew) | (with_reducible apply Row.drewN) | (with_reducible apply Row.set) | ((with_reducible apply Row.other); (case hp => first | (simp; done) | (simp; omega) | omega))))); (case e => rfl)) rfl) rfl ?_
      exact ⟨rfl, by (repeat' (first | (with_reducible exact Up.refl _) | (with_reducible assumption) | (with_reducible refine Up.alloc ?_ _) | (with_reducible refine Up.drew ?_) | (with_reducible refine Up.drewN ?_ _) | (with_reducible refine Up.setCell ?_ ?_ _) | (with_reducible refine Up.call ?_ (by with_reducible assumption)) | go_size))⟩
  · obtain ⟨rfl, rfl, rfl⟩ : 0 = rk ∧ 0 = rn ∧ q = re := by simpa [curves, hpq, hq] using hR
    have de : (q == 0) = false := by simpa using hq
    have HPQ := Lib.hid hpq
    clear hR hpq hq
    go_enter Tryd.func43, Tryd.ntmps43
    go_wp2_with (first
      | (go_at_call 63; ((with_reducible refine (asReal_calls k x a n s r f l _ p q HPQ.out).mono ?_); rintro E w1 ⟨rfl, hu1⟩; have k_w1 := hu1.cells.1; have f_w1 := hu1.cells.2; have z_w1 := hu1.size; (try simp at z_w1); have l0_w1 : w.heap.size < w1.heap.size := (by omega); have l1_w1 : w.heap.size + 1 < w1.heap.size := (by omega); (try clear q0 y0 q1 y1 q2 y2 q3 y3 q4 y4 q5 y5 q6 y6 q7 y7); have RZ_w1 : Row w1 (w.heap.size + 1) #[.int .i64 0, .bool false, .int .i64 0, .int .i64 0, .string ⟨#[]⟩, .int .i64 0, .int .i64 0, .int .i64 0] := Row.up (by (repeat' (first | (with_reducible assumption) | (with_reducible refine Row.at _ _ ?_; (simp; done)) | (with_reducible refine Row.alloc ?_ _) | (with_reducible refine Row.drew ?_) | (with_reducible refine Row.drewN ?_ _) | (with_reducible refine Row.other ?_ (by first | (simp; done) | (simp; omega) | omega) _) | (with_reducible refine Row.up ?_ (by with_reducible assumption)) | (with_reducible refine Row.chg ?_ (by with_reducible assumption) (by first | (simp; done) | (simp; omega)))))) hu1; obtain ⟨q0, y0, q1, y1, q2, y2, q3, y3, q4, y4, q5, y5, q6, y6, q7, y7⟩ := zrow_out RZ_w1)))
    (try simp only [Exit.inBlock, Exit.then])
    refine bodyPost_ret (results_oe rfl _ _ (w.heap.size + 1) _ false 0 _ ⟨#[]⟩ 0 0 0 (by apply cast; (case h => (repeat (first | (with_reducible assumption) | (with_reducible apply Row.at; (simp; done)) | (with_reducible apply Row.alloc) | (with_reducible apply Row.drew) | (with_reducible apply Row.drewN) | (with_reducible apply Row.set) | ((with_reducible apply Row.other); (case hp => first | (simp; done) | (simp; omega) | omega))))); (case e => rfl)) rfl) rfl ?_
    exact ⟨rfl, by (repeat' (first | (with_reducible exact Up.refl _) | (with_reducible assumption) | (with_reducible refine Up.alloc ?_ _) | (with_reducible refine Up.drew ?_) | (with_reducible refine Up.drewN ?_ _) | (with_reducible refine Up.setCell ?_ ?_ _) | (with_reducible refine Up.call ?_ (by with_reducible assumption)) | go_size))⟩

set_option maxHeartbeats 8000000 in
theorem curves_8 (k : Int) (x : Bool) (a n : Int) (s : ByteArray) (r f l : Int) (w : World) (hT : Turn.Tab w) (rk rn re : Int) (hR : curves 8 k n = (rk, rn, re)) :
    Calls Tryd.prog 43 #[.string ⟨#[99, 111, 115]⟩, .agg #[.int .i64 k, .bool x, .int .i64 a, .int .i64 n, .string s, .int .i64 r, .int .i64 f, .int .i64 l]] w fun E w' => E = .returned (.tuple #[.agg #[.int .i64 rk, .bool false, .int .i64 0, .int .i64 rn, .string ⟨#[]⟩, .int .i64 0, .int .i64 0, .int .i64 0], .int .i64 re]) ∧ Up w w' := by
  have HT := Lib.hid hT
  clear hT
  obtain ⟨p, q, hpq⟩ : ∃ p q, asReal k n = (p, q) := ⟨_, _, rfl⟩
  by_cases hq : q = 0
  · subst hq
    obtain ⟨⟨a0, a1, a2, a3, a4, a5⟩, e, hm1⟩ : ∃ M e, TurnM.rot p = (M, e) := ⟨_, _, rfl⟩
    have hG : real (a0, e) = (rk, rn, re) := by rw [← hR]; simp [curves, hpq, hm1]
    have HM1 := Lib.hid hm1
    have HPQ := Lib.hid hpq
    clear hR hpq hm1
    by_cases he : e = 0
    · subst he
      obtain ⟨rfl, rfl, rfl⟩ : 2 = rk ∧ a0 = rn ∧ 0 = re := by simpa [real] using hG
      clear hG
      go_enter Tryd.func43, Tryd.ntmps43
      go_wp2_with (first
        | (go_at_call 63; ((with_reducible refine (asReal_calls k x a n s r f l _ p 0 HPQ.out).mono ?_); rintro E w1 ⟨rfl, hu1⟩; have k_w1 := hu1.cells.1; have f_w1 := hu1.cells.2; have z_w1 := hu1.size; (try simp at z_w1); have l0_w1 : w.heap.size < w1.heap.size := (by omega); have l1_w1 : w.heap.size + 1 < w1.heap.size := (by omega); (try clear q0 y0 q1 y1 q2 y2 q3 y3 q4 y4 q5 y5 q6 y6 q7 y7); have RZ_w1 : Row w1 (w.heap.size + 1) #[.int .i64 0, .bool false, .int .i64 0, .int .i64 0, .string ⟨#[]⟩, .int .i64 0, .int .i64 0, .int .i64 0] := Row.up (by (repeat' (first | (with_reducible assumption) | (with_reducible refine Row.at _ _ ?_; (simp; done)) | (with_reducible refine Row.alloc ?_ _) | (with_reducible refine Row.drew ?_) | (with_reducible refine Row.drewN ?_ _) | (with_reducible refine Row.other ?_ (by first | (simp; done) | (simp; omega) | omega) _) | (with_reducible refine Row.up ?_ (by with_reducible assumption)) | (with_reducible refine Row.chg ?_ (by with_reducible assumption) (by first | (simp; done) | (simp; omega)))))) hu1; obtain ⟨q0, y0, q1, y1, q2, y2, q3, y3, q4, y4, q5, y5, q6, y6, q7, y7⟩ := zrow_out RZ_w1))
        | (go_at_call 67; ((with_reducible refine (rotate_t p _ _ _ _ _ _ _ HM1.out _ (HT.out.up (by (repeat' (first | (with_reducible exact Up.refl _) | (with_reducible assumption) | (with_reducible refine Up.alloc ?_ _) | (with_reducible refine Up.drew ?_) | (with_reducible refine Up.drewN ?_ _) | (with_reducible refine Up.setCell ?_ ?_ _) | (with_reducible refine Up.call ?_ (by with_reducible assumption)) | go_size))))).mono ?_); rintro E w4 ⟨rfl, hu4⟩; have k_w4 := hu4.cells.1; have f_w4 := hu4.cells.2; have z_w4 := hu4.size; (try simp at z_w4); have l0_w4 : w.heap.size < w4.heap.size := (by omega); have l1_w4 : w.heap.size + 1 < w4.heap.size := (by omega); have l2_w4 : w.heap.size + 1 + 1 < w4.heap.size := (by omega); have m2_w4 : w.heap.size + 2 < w4.heap.size := (by omega); (try clear q0 y0 q1 y1 q2 y2 q3 y3 q4 y4 q5 y5 q6 y6 q7 y7); have RZ_w4 : Row w4 (w.heap.size + 1) #[.int .i64 0, .bool false, .int .i64 0, .int .i64 0, .string ⟨#[]⟩, .int .i64 0, .int .i64 0, .int .i64 0] := Row.up (by (repeat' (first | (with_reducible assumption) | (with_reducible refine Row.at _ _ ?_; (simp; done)) | (with_reducible refine Row.alloc ?_ _) | (with_reducible refine Row.drew ?_) | (with_reducible refine Row.drewN ?_ _) | (with_reducible refine Row.other ?_ (by first | (simp; done) | (simp; omega) | omega) _) | (with_reducible refine Row.up ?_ (by with_reducible assumption)) | (with_reducible refine Row.chg ?_ (by with_reducible assumption) (by first | (simp; done) | (simp; omega)))))) hu4; obtain ⟨q0, y0, q1, y1, q2, y2, q3, y3, q4, y4, q5, y5, q6, y6, q7, y7⟩ := zrow_out RZ_w4))
        | (go_at_call 65; ((with_reducible refine (real_calls _ _).mono ?_); rintro E w7 ⟨rfl, hu7⟩; have k_w7 := hu7.cells.1; have f_w7 := hu7.cells.2; have z_w7 := hu7.size; (try simp at z_w7); have l0_w7 : w.heap.size < w7.heap.size := (by omega); have l1_w7 : w.heap.size + 1 < w7.heap.size := (by omega); (try clear q0 y0 q1 y1 q2 y2 q3 y3 q4 y4 q5 y5 q6 y6 q7 y7); have RZ_w7 : Row w7 (w.heap.size + 1) #[.int .i64 0, .bool false, .int .i64 0, .int .i64 0, .string ⟨#[]⟩, .int .i64 0, .int .i64 0, .int .i64 0] := Row.up (by (repeat' (first | (with_reducible assumption) | (with_reducible refine Row.at _ _ ?_; (simp; done)) | (with_reducible refine Row.alloc ?_ _) | (with_reducible refine Row.drew ?_) | (with_reducible refine Row.drewN ?_ _) | (with_reducible refine Row.other ?_ (by first | (simp; done) | (simp; omega) | omega) _) | (with_reducible refine Row.up ?_ (by with_reducible assumption)) | (with_reducible refine Row.chg ?_ (by with_reducible assumption) (by first | (simp; done) | (simp; omega)))))) hu7; obtain ⟨q0, y0, q1, y1, q2, y2, q3, y3, q4, y4, q5, y5, q6, y6, q7, y7⟩ := zrow_out RZ_w7)))
      (try simp only [Exit.inBlock, Exit.then])
      refine bodyPost_ret (results_oe rfl _ _ (w.heap.size + 1) _ false 0 _ ⟨#[]⟩ 0 0 0 (by apply cast; (case h => (repeat (first | (with_reducible assumption) | (with_reducible apply Row.at; (simp; done)) | (with_reducible apply Row.alloc) | (with_reducible apply Row.drew) | (with_reducible apply Row.drewN) | (with_reducible apply Row.set) | ((with_reducible apply Row.other); (case hp => first | (simp; done) | (simp; omega) | omega))))); (case e => rfl)) rfl) rfl ?_
      exact ⟨rfl, by (repeat' (first | (with_reducible exact Up.refl _) | (with_reducible assumption) | (with_reducible refine Up.alloc ?_ _) | (with_reducible refine Up.drew ?_) | (with_reducible refine Up.drewN ?_ _) | (with_reducible refine Up.setCell ?_ ?_ _) | (with_reducible refine Up.call ?_ (by with_reducible assumption)) | go_size))⟩
    · obtain ⟨rfl, rfl, rfl⟩ : 0 = rk ∧ 0 = rn ∧ e = re := by simpa [real, he] using hG
      have de : (e == 0) = false := by simpa using he
      clear hG he
      go_enter Tryd.func43, Tryd.ntmps43
      go_upto_region 11 with (first
        | (go_at_call 63; ((with_reducible refine (asReal_calls k x a n s r f l _ p 0 HPQ.out).mono ?_); rintro E w1 ⟨rfl, hu1⟩; have k_w1 := hu1.cells.1; have f_w1 := hu1.cells.2; have z_w1 := hu1.size; (try simp at z_w1); have l0_w1 : w.heap.size < w1.heap.size := (by omega); have l1_w1 : w.heap.size + 1 < w1.heap.size := (by omega); (try clear q0 y0 q1 y1 q2 y2 q3 y3 q4 y4 q5 y5 q6 y6 q7 y7); have RZ_w1 : Row w1 (w.heap.size + 1) #[.int .i64 0, .bool false, .int .i64 0, .int .i64 0, .string ⟨#[]⟩, .int .i64 0, .int .i64 0, .int .i64 0] := Row.up (by (repeat' (first | (with_reducible assumption) | (with_reducible refine Row.at _ _ ?_; (simp; done)) | (with_reducible refine Row.alloc ?_ _) | (with_reducible refine Row.drew ?_) | (with_reducible refine Row.drewN ?_ _) | (with_reducible refine Row.other ?_ (by first | (simp; done) | (simp; omega) | omega) _) | (with_reducible refine Row.up ?_ (by with_reducible assumption)) | (with_reducible refine Row.chg ?_ (by with_reducible assumption) (by first | (simp; done) | (simp; omega)))))) hu1; obtain ⟨q0, y0, q1, y1, q2, y2, q3, y3, q4, y4, q5, y5, q6, y6, q7, y7⟩ := zrow_out RZ_w1))
        | (go_at_call 67; ((with_reducible refine (rotate_t p _ _ _ _ _ _ _ HM1.out _ (HT.out.up (by (repeat' (first | (with_reducible exact Up.refl _) | (with_reducible assumption) | (with_reducible refine Up.alloc ?_ _) | (with_reducible refine Up.drew ?_) | (with_reducible refine Up.drewN ?_ _) | (with_reducible refine Up.setCell ?_ ?_ _) | (with_reducible refine Up.call ?_ (by with_reducible assumption)) | go_size))))).mono ?_); rintro E w4 ⟨rfl, hu4⟩; have k_w4 := hu4.cells.1; have f_w4 := hu4.cells.2; have z_w4 := hu4.size; (try simp at z_w4); have l0_w4 : w.heap.size < w4.heap.size := (by omega); have l1_w4 : w.heap.size + 1 < w4.heap.size := (by omega); have l2_w4 : w.heap.size + 1 + 1 < w4.heap.size := (by omega); have m2_w4 : w.heap.size + 2 < w4.heap.size := (by omega); (try clear q0 y0 q1 y1 q2 y2 q3 y3 q4 y4 q5 y5 q6 y6 q7 y7); have RZ_w4 : Row w4 (w.heap.size + 1) #[.int .i64 0, .bool false, .int .i64 0, .int .i64 0, .string ⟨#[]⟩, .int .i64 0, .int .i64 0, .int .i64 0] := Row.up (by (repeat' (first | (with_reducible assumption) | (with_reducible refine Row.at _ _ ?_; (simp; done)) | (with_reducible refine Row.alloc ?_ _) | (with_reducible refine Row.drew ?_) | (with_reducible refine Row.drewN ?_ _) | (with_reducible refine Row.other ?_ (by first | (simp; done) | (simp; omega) | omega) _) | (with_reducible refine Row.up ?_ (by with_reducible assumption)) | (with_reducible refine Row.chg ?_ (by with_reducible assumption) (by first | (simp; done) | (simp; omega)))))) hu4; obtain ⟨q0, y0, q1, y1, q2, y2, q3, y3, q4, y4, q5, y5, q6, y6, q7, y7⟩ := zrow_out RZ_w4)))
      generalize hW : World.setCell _ _ _ = w5
      have RZ5 : Row w5 (w.heap.size + 1) #[.int .i64 0, .bool false, .int .i64 0, .int .i64 0, .string ⟨#[]⟩, .int .i64 0, .int .i64 0, .int .i64 0] := by subst hW; (repeat' (first | (with_reducible assumption) | (with_reducible refine Row.at _ _ ?_; (simp; done)) | (with_reducible refine Row.alloc ?_ _) | (with_reducible refine Row.drew ?_) | (with_reducible refine Row.drewN ?_ _) | (with_reducible refine Row.other ?_ (by first | (simp; done) | (simp; omega) | omega) _) | (with_reducible refine Row.up ?_ (by with_reducible assumption)) | (with_reducible refine Row.chg ?_ (by with_reducible assumption) (by first | (simp; done) | (simp; omega)))))
      have HU5 : Up w w5 := by subst hW; (repeat' (first | (with_reducible exact Up.refl _) | (with_reducible assumption) | (with_reducible refine Up.alloc ?_ _) | (with_reducible refine Up.drew ?_) | (with_reducible refine Up.drewN ?_ _) | (with_reducible refine Up.setCell ?_ ?_ _) | (with_reducible refine Up.call ?_ (by with_reducible assumption)) | go_size))
      clear q0 q1 q2 q3 q4 q5 q6 q7 y0 y1 y2 y3 y4 y5 y6 y7 k_w4 f_w4 RZ_w4 k_w1 f_w1 RZ_w1
      have q0 := RZ5.cell 0 rfl
      have y0 := RZ5.free 0
      have q1 := RZ5.cell 1 rfl
      have y1 := RZ5.free 1
      have q2 := RZ5.cell 2 rfl
      have y2 := RZ5.free 2
      have q3 := RZ5.cell 3 rfl
      have y3 := RZ5.free 3
      have q4 := RZ5.cell 4 rfl
      have y4 := RZ5.free 4
      have q5 := RZ5.cell 5 rfl
      have y5 := RZ5.free 5
      have q6 := RZ5.cell 6 rfl
      have y6 := RZ5.free 6
      have q7 := RZ5.cell 7 rfl
      have y7 := RZ5.free 7
      go_wp2
      (try simp only [Exit.inBlock, Exit.then])
      refine bodyPost_ret (results_oe rfl _ _ (w.heap.size + 1) _ false 0 _ ⟨#[]⟩ 0 0 0 (by apply cast; (case h => (repeat (first | (with_reducible assumption) | (with_reducible apply Row.at; (simp; done)) | (with_reducible apply Row.alloc) | (with_reducible apply Row.drew) | (with_reducible apply Row.drewN) | (with_reducible apply Row.set) | ((with_reducible apply Row.other); (case hp => first | (simp; done) | (simp; omega) | omega))))); (case e => rfl)) rfl) rfl ?_
      exact ⟨rfl, by (repeat' (first | (with_reducible exact Up.refl _) | (with_reducible assumption) | (with_reducible refine Up.alloc ?_ _) | (with_reducible refine Up.drew ?_) | (with_reducible refine Up.drewN ?_ _) | (with_reducible refine Up.setCell ?_ ?_ _) | (with_reducible refine Up.call ?_ (by with_reducible assumption)) | go_size))⟩
  · obtain ⟨rfl, rfl, rfl⟩ : 0 = rk ∧ 0 = rn ∧ q = re := by simpa [curves, hpq, hq] using hR
    have de : (q == 0) = false := by simpa using hq
    have HPQ := Lib.hid hpq
    clear hR hpq hq
    go_enter Tryd.func43, Tryd.ntmps43
    go_wp2_with (first
      | (go_at_call 63; ((with_reducible refine (asReal_calls k x a n s r f l _ p q HPQ.out).mono ?_); rintro E w1 ⟨rfl, hu1⟩; have k_w1 := hu1.cells.1; have f_w1 := hu1.cells.2; have z_w1 := hu1.size; (try simp at z_w1); have l0_w1 : w.heap.size < w1.heap.size := (by omega); have l1_w1 : w.heap.size + 1 < w1.heap.size := (by omega); (try clear q0 y0 q1 y1 q2 y2 q3 y3 q4 y4 q5 y5 q6 y6 q7 y7); have RZ_w1 : Row w1 (w.heap.size + 1) #[.int .i64 0, .bool false, .int .i64 0, .int .i64 0, .string ⟨#[]⟩, .int .i64 0, .int .i64 0, .int .i64 0] := Row.up (by (repeat' (first | (with_reducible assumption) | (with_reducible refine Row.at _ _ ?_; (simp; done)) | (with_reducible refine Row.alloc ?_ _) | (with_reducible refine Row.drew ?_) | (with_reducible refine Row.drewN ?_ _) | (with_reducible refine Row.other ?_ (by first | (simp; done) | (simp; omega) | omega) _) | (with_reducible refine Row.up ?_ (by with_reducible assumption)) | (with_reducible refine Row.chg ?_ (by with_reducible assumption) (by first | (simp; done) | (simp; omega)))))) hu1; obtain ⟨q0, y0, q1, y1, q2, y2, q3, y3, q4, y4, q5, y5, q6, y6, q7, y7⟩ := zrow_out RZ_w1)))
    (try simp only [Exit.inBlock, Exit.then])
    refine bodyPost_ret (results_oe rfl _ _ (w.heap.size + 1) _ false 0 _ ⟨#[]⟩ 0 0 0 (by apply cast; (case h => (repeat (first | (with_reducible assumption) | (with_reducible apply Row.at; (simp; done)) | (with_reducible apply Row.alloc) | (with_reducible apply Row.drew) | (with_reducible apply Row.drewN) | (with_reducible apply Row.set) | ((with_reducible apply Row.other); (case hp => first | (simp; done) | (simp; omega) | omega))))); (case e => rfl)) rfl) rfl ?_
    exact ⟨rfl, by (repeat' (first | (with_reducible exact Up.refl _) | (with_reducible assumption) | (with_reducible refine Up.alloc ?_ _) | (with_reducible refine Up.drew ?_) | (with_reducible refine Up.drewN ?_ _) | (with_reducible refine Up.setCell ?_ ?_ _) | (with_reducible refine Up.call ?_ (by with_reducible assumption)) | go_size))⟩

set_option maxHeartbeats 1000000 in
theorem one_6 (k : Int) (x : Bool) (a n : Int) (s : ByteArray) (r f l : Int) (w : World) (hT : Turn.Tab w) (rk rn re : Int) (hR : un 6 k n = (rk, rn, re)) :
    Calls Tryd.prog 16 #[.string ⟨#[115, 113, 114, 116]⟩, .agg #[.int .i64 k, .bool x, .int .i64 a, .int .i64 n, .string s, .int .i64 r, .int .i64 f, .int .i64 l]] w fun E w' => E = .returned (.tuple #[.agg #[.int .i64 rk, .bool false, .int .i64 0, .int .i64 rn, .string ⟨#[]⟩, .int .i64 0, .int .i64 0, .int .i64 0], .int .i64 re]) ∧ Up w w' := by
  have HT := Lib.hid hT
  clear hT
  cases hb : numb k n
  · obtain ⟨rfl, rfl, rfl⟩ : 0 = rk ∧ 0 = rn ∧ 16 = re := by simpa [un, hb, tcheck] using hR
    have HB := Lib.hid hb
    clear hR hb
    go_enter Tryd.func16, Tryd.ntmps16
    go_wp2_with (first
      | (go_at_call 35; ((with_reducible refine (number_calls _ x a n s r f l _).mono ?_); rintro E w1 ⟨rfl, hu1⟩; rw [HB.out]; have k_w1 := hu1.cells.1; have f_w1 := hu1.cells.2; have z_w1 := hu1.size; (try simp at z_w1); have l0_w1 : w.heap.size < w1.heap.size := (by omega); have l1_w1 : w.heap.size + 1 < w1.heap.size := (by omega); (try clear q0 y0 q1 y1 q2 y2 q3 y3 q4 y4 q5 y5 q6 y6 q7 y7); have RZ_w1 : Row w1 (w.heap.size + 1) #[.int .i64 0, .bool false, .int .i64 0, .int .i64 0, .string ⟨#[]⟩, .int .i64 0, .int .i64 0, .int .i64 0] := Row.up (by (repeat' (first | (with_reducible assumption) | (with_reducible refine Row.at _ _ ?_; (simp; done)) | (with_reducible refine Row.alloc ?_ _) | (with_reducible refine Row.drew ?_) | (with_reducible refine Row.drewN ?_ _) | (with_reducible refine Row.other ?_ (by first | (simp; done) | (simp; omega) | omega) _) | (with_reducible refine Row.up ?_ (by with_reducible assumption)) | (with_reducible refine Row.chg ?_ (by with_reducible assumption) (by first | (simp; done) | (simp; omega)))))) hu1; obtain ⟨q0, y0, q1, y1, q2, y2, q3, y3, q4, y4, q5, y5, q6, y6, q7, y7⟩ := zrow_out RZ_w1)))
    (try simp only [Exit.inBlock, Exit.then])
    refine bodyPost_ret (results_oe rfl _ _ (w.heap.size + 1) _ false 0 _ ⟨#[]⟩ 0 0 0 (by apply cast; (case h => (repeat (first | (with_reducible assumption) | (with_reducible apply Row.at; (simp; done)) | (with_reducible apply Row.alloc) | (with_reducible apply Row.drew) | (with_reducible apply Row.drewN) | (with_reducible apply Row.set) | ((with_reducible apply Row.other); (case hp => first | (simp; done) | (simp; omega) | omega))))); (case e => rfl)) rfl) rfl ?_
    exact ⟨rfl, by (repeat' (first | (with_reducible exact Up.refl _) | (with_reducible assumption) | (with_reducible refine Up.alloc ?_ _) | (with_reducible refine Up.drew ?_) | (with_reducible refine Up.drewN ?_ _) | (with_reducible refine Up.setCell ?_ ?_ _) | (with_reducible refine Up.call ?_ (by with_reducible assumption)) | go_size))⟩
  · have HS := Lib.hid (show curves 6 k n = (rk, rn, re) by simpa [un, hb] using hR)
    have HB := Lib.hid hb
    clear hR hb
    go_enter Tryd.func16, Tryd.ntmps16
    go_wp2_with (first
      | (go_at_call 35; ((with_reducible refine (number_calls _ x a n s r f l _).mono ?_); rintro E w1 ⟨rfl, hu1⟩; rw [HB.out]; have k_w1 := hu1.cells.1; have f_w1 := hu1.cells.2; have z_w1 := hu1.size; (try simp at z_w1); have l0_w1 : w.heap.size < w1.heap.size := (by omega); have l1_w1 : w.heap.size + 1 < w1.heap.size := (by omega); (try clear q0 y0 q1 y1 q2 y2 q3 y3 q4 y4 q5 y5 q6 y6 q7 y7); have RZ_w1 : Row w1 (w.heap.size + 1) #[.int .i64 0, .bool false, .int .i64 0, .int .i64 0, .string ⟨#[]⟩, .int .i64 0, .int .i64 0, .int .i64 0] := Row.up (by (repeat' (first | (with_reducible assumption) | (with_reducible refine Row.at _ _ ?_; (simp; done)) | (with_reducible refine Row.alloc ?_ _) | (with_reducible refine Row.drew ?_) | (with_reducible refine Row.drewN ?_ _) | (with_reducible refine Row.other ?_ (by first | (simp; done) | (simp; omega) | omega) _) | (with_reducible refine Row.up ?_ (by with_reducible assumption)) | (with_reducible refine Row.chg ?_ (by with_reducible assumption) (by first | (simp; done) | (simp; omega)))))) hu1; obtain ⟨q0, y0, q1, y1, q2, y2, q3, y3, q4, y4, q5, y5, q6, y6, q7, y7⟩ := zrow_out RZ_w1))
      | (go_at_call 43; ((with_reducible refine (curves_6 k x a n s r f l _ (HT.out.up (by (repeat' (first | (with_reducible exact Up.refl _) | (with_reducible assumption) | (with_reducible refine Up.alloc ?_ _) | (with_reducible refine Up.drew ?_) | (with_reducible refine Up.drewN ?_ _) | (with_reducible refine Up.setCell ?_ ?_ _) | (with_reducible refine Up.call ?_ (by with_reducible assumption)) | go_size)))) _ _ _ HS.out).mono ?_); rintro E w2 ⟨rfl, hu2⟩; have k_w2 := hu2.cells.1; have f_w2 := hu2.cells.2; have z_w2 := hu2.size; (try simp at z_w2); have l0_w2 : w.heap.size < w2.heap.size := (by omega); have l1_w2 : w.heap.size + 1 < w2.heap.size := (by omega); (try clear q0 y0 q1 y1 q2 y2 q3 y3 q4 y4 q5 y5 q6 y6 q7 y7); have RZ_w2 : Row w2 (w.heap.size + 1) #[.int .i64 0, .bool false, .int .i64 0, .int .i64 0, .string ⟨#[]⟩, .int .i64 0, .int .i64 0, .int .i64 0] := Row.up (by (repeat' (first | (with_reducible assumption) | (with_reducible refine Row.at _ _ ?_; (simp; done)) | (with_reducible refine Row.alloc ?_ _) | (with_reducible refine Row.drew ?_) | (with_reducible refine Row.drewN ?_ _) | (with_reducible refine Row.other ?_ (by first | (simp; done) | (simp; omega) | omega) _) | (with_reducible refine Row.up ?_ (by with_reducible assumption)) | (with_reducible refine Row.chg ?_ (by with_reducible assumption) (by first | (simp; done) | (simp; omega)))))) hu2; obtain ⟨q0, y0, q1, y1, q2, y2, q3, y3, q4, y4, q5, y5, q6, y6, q7, y7⟩ := zrow_out RZ_w2)))
    (try simp only [Exit.inBlock, Exit.then])
    refine bodyPost_ret (results_oe rfl _ _ (w.heap.size + 1) _ false 0 _ ⟨#[]⟩ 0 0 0 (by apply cast; (case h => (repeat (first | (with_reducible assumption) | (with_reducible apply Row.at; (simp; done)) | (with_reducible apply Row.alloc) | (with_reducible apply Row.drew) | (with_reducible apply Row.drewN) | (with_reducible apply Row.set) | ((with_reducible apply Row.other); (case hp => first | (simp; done) | (simp; omega) | omega))))); (case e => rfl)) rfl) rfl ?_
    exact ⟨rfl, by (repeat' (first | (with_reducible exact Up.refl _) | (with_reducible assumption) | (with_reducible refine Up.alloc ?_ _) | (with_reducible refine Up.drew ?_) | (with_reducible refine Up.drewN ?_ _) | (with_reducible refine Up.setCell ?_ ?_ _) | (with_reducible refine Up.call ?_ (by with_reducible assumption)) | go_size))⟩

set_option maxHeartbeats 1000000 in
theorem do_6 (k : Int) (x : Bool) (a n : Int) (s : ByteArray) (r f l : Int) (g c : Nat) (w : World) (hT : Turn.Tab w) (R : Cs w g #[.int .i64 k, .bool x, .int .i64 a, .int .i64 n, .string s, .int .i64 r, .int .i64 f, .int .i64 l]) (hg : g < w.heap.size) (rk rn re : Int) (hR : un 6 k n = (rk, rn, re)) :
    Calls Tryd.prog 10 #[.string ⟨#[115, 113, 114, 116]⟩, .slice (some ⟨g, 0, none⟩) 1 c] w fun E w' => Gives w rk rn re E w' ∧ Up w w' := by
  have HT := Lib.hid hT
  have HR := Lib.hid hR
  have hg1 : g < w.heap.size + 1 := by omega
  have hgn : ¬ w.heap.size = g := by omega
  have c0 := R 0 _ rfl
  have c1 := R 1 _ rfl
  have c2 := R 2 _ rfl
  have c3 := R 3 _ rfl
  have c4 := R 4 _ rfl
  have c5 := R 5 _ rfl
  have c6 := R 6 _ rfl
  have c7 := R 7 _ rfl
  clear R hR hT
  by_cases z : re = 0
  · subst z
    go_enter Tryd.func10, Tryd.ntmps10
    go_wp2_with (first
      | (go_at_call 7; ((with_reducible refine (known_6 _).mono ?_); rintro E w0 ⟨rfl, rfl⟩))
      | (go_at_call 16; ((with_reducible refine (one_6 k x a n s r f l _ (HT.out.up (by (repeat' (first | (with_reducible exact Up.refl _) | (with_reducible assumption) | (with_reducible refine Up.alloc ?_ _) | (with_reducible refine Up.drew ?_) | (with_reducible refine Up.drewN ?_ _) | (with_reducible refine Up.setCell ?_ ?_ _) | (with_reducible refine Up.call ?_ (by with_reducible assumption)) | go_size)))) _ _ _ HR.out).mono ?_); rintro E w1 ⟨rfl, hu1⟩; have k_w1 := hu1.cells.1; have f_w1 := hu1.cells.2; have z_w1 := hu1.size; (try simp at z_w1); have l0_w1 : w.heap.size < w1.heap.size := (by omega); (try clear q0 y0 q1 y1 q2 y2 q3 y3 q4 y4 q5 y5 q6 y6 q7 y7); have RZ_w1 : Row w1 (w.heap.size) #[.int .i64 0, .bool false, .int .i64 0, .int .i64 0, .string ⟨#[]⟩, .int .i64 0, .int .i64 0, .int .i64 0] := Row.up (by (repeat' (first | (with_reducible assumption) | (with_reducible refine Row.at _ _ ?_; (simp; done)) | (with_reducible refine Row.alloc ?_ _) | (with_reducible refine Row.drew ?_) | (with_reducible refine Row.drewN ?_ _) | (with_reducible refine Row.other ?_ (by first | (simp; done) | (simp; omega) | omega) _) | (with_reducible refine Row.up ?_ (by with_reducible assumption)) | (with_reducible refine Row.chg ?_ (by with_reducible assumption) (by first | (simp; done) | (simp; omega)))))) hu1; obtain ⟨q0, y0, q1, y1, q2, y2, q3, y3, q4, y4, q5, y5, q6, y6, q7, y7⟩ := zrow_out RZ_w1)))
    go_ret2
    exact ⟨Or.inl ⟨rfl, w1.heap.size, by omega, rfl, by (repeat' (first | (with_reducible assumption) | (with_reducible refine Row.at _ _ ?_; (simp; done)) | (with_reducible refine Row.alloc ?_ _) | (with_reducible refine Row.drew ?_) | (with_reducible refine Row.drewN ?_ _) | (with_reducible refine Row.other ?_ (by first | (simp; done) | (simp; omega) | omega) _) | (with_reducible refine Row.up ?_ (by with_reducible assumption)) | (with_reducible refine Row.chg ?_ (by with_reducible assumption) (by first | (simp; done) | (simp; omega)))))⟩, by (repeat' (first | (with_reducible exact Up.refl _) | (with_reducible assumption) | (with_reducible refine Up.alloc ?_ _) | (with_reducible refine Up.drew ?_) | (with_reducible refine Up.drewN ?_ _) | (with_reducible refine Up.setCell ?_ ?_ _) | (with_reducible refine Up.call ?_ (by with_reducible assumption)) | go_size))⟩
  · have dz : (re == 0) = false := by simpa using z
    have HZ := Lib.hid z
    clear z
    go_enter Tryd.func10, Tryd.ntmps10
    go_wp2_with (first
      | (go_at_call 7; ((with_reducible refine (known_6 _).mono ?_); rintro E w0 ⟨rfl, rfl⟩))
      | (go_at_call 16; ((with_reducible refine (one_6 k x a n s r f l _ (HT.out.up (by (repeat' (first | (with_reducible exact Up.refl _) | (with_reducible assumption) | (with_reducible refine Up.alloc ?_ _) | (with_reducible refine Up.drew ?_) | (with_reducible refine Up.drewN ?_ _) | (with_reducible refine Up.setCell ?_ ?_ _) | (with_reducible refine Up.call ?_ (by with_reducible assumption)) | go_size)))) _ _ _ HR.out).mono ?_); rintro E w1 ⟨rfl, hu1⟩; have k_w1 := hu1.cells.1; have f_w1 := hu1.cells.2; have z_w1 := hu1.size; (try simp at z_w1); have l0_w1 : w.heap.size < w1.heap.size := (by omega); (try clear q0 y0 q1 y1 q2 y2 q3 y3 q4 y4 q5 y5 q6 y6 q7 y7); have RZ_w1 : Row w1 (w.heap.size) #[.int .i64 0, .bool false, .int .i64 0, .int .i64 0, .string ⟨#[]⟩, .int .i64 0, .int .i64 0, .int .i64 0] := Row.up (by (repeat' (first | (with_reducible assumption) | (with_reducible refine Row.at _ _ ?_; (simp; done)) | (with_reducible refine Row.alloc ?_ _) | (with_reducible refine Row.drew ?_) | (with_reducible refine Row.drewN ?_ _) | (with_reducible refine Row.other ?_ (by first | (simp; done) | (simp; omega) | omega) _) | (with_reducible refine Row.up ?_ (by with_reducible assumption)) | (with_reducible refine Row.chg ?_ (by with_reducible assumption) (by first | (simp; done) | (simp; omega)))))) hu1; obtain ⟨q0, y0, q1, y1, q2, y2, q3, y3, q4, y4, q5, y5, q6, y6, q7, y7⟩ := zrow_out RZ_w1)))
    go_ret2
    exact ⟨Or.inr ⟨HZ.out, rfl⟩, by (repeat' (first | (with_reducible exact Up.refl _) | (with_reducible assumption) | (with_reducible refine Up.alloc ?_ _) | (with_reducible refine Up.drew ?_) | (with_reducible refine Up.drewN ?_ _) | (with_reducible refine Up.setCell ?_ ?_ _) | (with_reducible refine Up.call ?_ (by with_reducible assumption)) | go_size))⟩

set_option maxHeartbeats 1000000 in
theorem one_7 (k : Int) (x : Bool) (a n : Int) (s : ByteArray) (r f l : Int) (w : World) (hT : Turn.Tab w) (rk rn re : Int) (hR : un 7 k n = (rk, rn, re)) :
    Calls Tryd.prog 16 #[.string ⟨#[115, 105, 110]⟩, .agg #[.int .i64 k, .bool x, .int .i64 a, .int .i64 n, .string s, .int .i64 r, .int .i64 f, .int .i64 l]] w fun E w' => E = .returned (.tuple #[.agg #[.int .i64 rk, .bool false, .int .i64 0, .int .i64 rn, .string ⟨#[]⟩, .int .i64 0, .int .i64 0, .int .i64 0], .int .i64 re]) ∧ Up w w' := by
  have HT := Lib.hid hT
  clear hT
  cases hb : numb k n
  · obtain ⟨rfl, rfl, rfl⟩ : 0 = rk ∧ 0 = rn ∧ 16 = re := by simpa [un, hb, tcheck] using hR
    have HB := Lib.hid hb
    clear hR hb
    go_enter Tryd.func16, Tryd.ntmps16
    go_wp2_with (first
      | (go_at_call 35; ((with_reducible refine (number_calls _ x a n s r f l _).mono ?_); rintro E w1 ⟨rfl, hu1⟩; rw [HB.out]; have k_w1 := hu1.cells.1; have f_w1 := hu1.cells.2; have z_w1 := hu1.size; (try simp at z_w1); have l0_w1 : w.heap.size < w1.heap.size := (by omega); have l1_w1 : w.heap.size + 1 < w1.heap.size := (by omega); (try clear q0 y0 q1 y1 q2 y2 q3 y3 q4 y4 q5 y5 q6 y6 q7 y7); have RZ_w1 : Row w1 (w.heap.size + 1) #[.int .i64 0, .bool false, .int .i64 0, .int .i64 0, .string ⟨#[]⟩, .int .i64 0, .int .i64 0, .int .i64 0] := Row.up (by (repeat' (first | (with_reducible assumption) | (with_reducible refine Row.at _ _ ?_; (simp; done)) | (with_reducible refine Row.alloc ?_ _) | (with_reducible refine Row.drew ?_) | (with_reducible refine Row.drewN ?_ _) | (with_reducible refine Row.other ?_ (by first | (simp; done) | (simp; omega) | omega) _) | (with_reducible refine Row.up ?_ (by with_reducible assumption)) | (with_reducible refine Row.chg ?_ (by with_reducible assumption) (by first | (simp; done) | (simp; omega)))))) hu1; obtain ⟨q0, y0, q1, y1, q2, y2, q3, y3, q4, y4, q5, y5, q6, y6, q7, y7⟩ := zrow_out RZ_w1)))
    (try simp only [Exit.inBlock, Exit.then])
    refine bodyPost_ret (results_oe rfl _ _ (w.heap.size + 1) _ false 0 _ ⟨#[]⟩ 0 0 0 (by apply cast; (case h => (repeat (first | (with_reducible assumption) | (with_reducible apply Row.at; (simp; done)) | (with_reducible apply Row.alloc) | (with_reducible apply Row.drew) | (with_reducible apply Row.drewN) | (with_reducible apply Row.set) | ((with_reducible apply Row.other); (case hp => first | (simp; done) | (simp; omega) | omega))))); (case e => rfl)) rfl) rfl ?_
    exact ⟨rfl, by (repeat' (first | (with_reducible exact Up.refl _) | (with_reducible assumption) | (with_reducible refine Up.alloc ?_ _) | (with_reducible refine Up.drew ?_) | (with_reducible refine Up.drewN ?_ _) | (with_reducible refine Up.setCell ?_ ?_ _) | (with_reducible refine Up.call ?_ (by with_reducible assumption)) | go_size))⟩
  · have HS := Lib.hid (show curves 7 k n = (rk, rn, re) by simpa [un, hb] using hR)
    have HB := Lib.hid hb
    clear hR hb
    go_enter Tryd.func16, Tryd.ntmps16
    go_wp2_with (first
      | (go_at_call 35; ((with_reducible refine (number_calls _ x a n s r f l _).mono ?_); rintro E w1 ⟨rfl, hu1⟩; rw [HB.out]; have k_w1 := hu1.cells.1; have f_w1 := hu1.cells.2; have z_w1 := hu1.size; (try simp at z_w1); have l0_w1 : w.heap.size < w1.heap.size := (by omega); have l1_w1 : w.heap.size + 1 < w1.heap.size := (by omega); (try clear q0 y0 q1 y1 q2 y2 q3 y3 q4 y4 q5 y5 q6 y6 q7 y7); have RZ_w1 : Row w1 (w.heap.size + 1) #[.int .i64 0, .bool false, .int .i64 0, .int .i64 0, .string ⟨#[]⟩, .int .i64 0, .int .i64 0, .int .i64 0] := Row.up (by (repeat' (first | (with_reducible assumption) | (with_reducible refine Row.at _ _ ?_; (simp; done)) | (with_reducible refine Row.alloc ?_ _) | (with_reducible refine Row.drew ?_) | (with_reducible refine Row.drewN ?_ _) | (with_reducible refine Row.other ?_ (by first | (simp; done) | (simp; omega) | omega) _) | (with_reducible refine Row.up ?_ (by with_reducible assumption)) | (with_reducible refine Row.chg ?_ (by with_reducible assumption) (by first | (simp; done) | (simp; omega)))))) hu1; obtain ⟨q0, y0, q1, y1, q2, y2, q3, y3, q4, y4, q5, y5, q6, y6, q7, y7⟩ := zrow_out RZ_w1))
      | (go_at_call 43; ((with_reducible refine (curves_7 k x a n s r f l _ (HT.out.up (by (repeat' (first | (with_reducible exact Up.refl _) | (with_reducible assumption) | (with_reducible refine Up.alloc ?_ _) | (with_reducible refine Up.drew ?_) | (with_reducible refine Up.drewN ?_ _) | (with_reducible refine Up.setCell ?_ ?_ _) | (with_reducible refine Up.call ?_ (by with_reducible assumption)) | go_size)))) _ _ _ HS.out).mono ?_); rintro E w2 ⟨rfl, hu2⟩; have k_w2 := hu2.cells.1; have f_w2 := hu2.cells.2; have z_w2 := hu2.size; (try simp at z_w2); have l0_w2 : w.heap.size < w2.heap.size := (by omega); have l1_w2 : w.heap.size + 1 < w2.heap.size := (by omega); (try clear q0 y0 q1 y1 q2 y2 q3 y3 q4 y4 q5 y5 q6 y6 q7 y7); have RZ_w2 : Row w2 (w.heap.size + 1) #[.int .i64 0, .bool false, .int .i64 0, .int .i64 0, .string ⟨#[]⟩, .int .i64 0, .int .i64 0, .int .i64 0] := Row.up (by (repeat' (first | (with_reducible assumption) | (with_reducible refine Row.at _ _ ?_; (simp; done)) | (with_reducible refine Row.alloc ?_ _) | (with_reducible refine Row.drew ?_) | (with_reducible refine Row.drewN ?_ _) | (with_reducible refine Row.other ?_ (by first | (simp; done) | (simp; omega) | omega) _) | (with_reducible refine Row.up ?_ (by with_reducible assumption)) | (with_reducible refine Row.chg ?_ (by with_reducible assumption) (by first | (simp; done) | (simp; omega)))))) hu2; obtain ⟨q0, y0, q1, y1, q2, y2, q3, y3, q4, y4, q5, y5, q6, y6, q7, y7⟩ := zrow_out RZ_w2)))
    (try simp only [Exit.inBlock, Exit.then])
    refine bodyPost_ret (results_oe rfl _ _ (w.heap.size + 1) _ false 0 _ ⟨#[]⟩ 0 0 0 (by apply cast; (case h => (repeat (first | (with_reducible assumption) | (with_reducible apply Row.at; (simp; done)) | (with_reducible apply Row.alloc) | (with_reducible apply Row.drew) | (with_reducible apply Row.drewN) | (with_reducible apply Row.set) | ((with_reducible apply Row.other); (case hp => first | (simp; done) | (simp; omega) | omega))))); (case e => rfl)) rfl) rfl ?_
    exact ⟨rfl, by (repeat' (first | (with_reducible exact Up.refl _) | (with_reducible assumption) | (with_reducible refine Up.alloc ?_ _) | (with_reducible refine Up.drew ?_) | (with_reducible refine Up.drewN ?_ _) | (with_reducible refine Up.setCell ?_ ?_ _) | (with_reducible refine Up.call ?_ (by with_reducible assumption)) | go_size))⟩

set_option maxHeartbeats 1000000 in
theorem do_7 (k : Int) (x : Bool) (a n : Int) (s : ByteArray) (r f l : Int) (g c : Nat) (w : World) (hT : Turn.Tab w) (R : Cs w g #[.int .i64 k, .bool x, .int .i64 a, .int .i64 n, .string s, .int .i64 r, .int .i64 f, .int .i64 l]) (hg : g < w.heap.size) (rk rn re : Int) (hR : un 7 k n = (rk, rn, re)) :
    Calls Tryd.prog 10 #[.string ⟨#[115, 105, 110]⟩, .slice (some ⟨g, 0, none⟩) 1 c] w fun E w' => Gives w rk rn re E w' ∧ Up w w' := by
  have HT := Lib.hid hT
  have HR := Lib.hid hR
  have hg1 : g < w.heap.size + 1 := by omega
  have hgn : ¬ w.heap.size = g := by omega
  have c0 := R 0 _ rfl
  have c1 := R 1 _ rfl
  have c2 := R 2 _ rfl
  have c3 := R 3 _ rfl
  have c4 := R 4 _ rfl
  have c5 := R 5 _ rfl
  have c6 := R 6 _ rfl
  have c7 := R 7 _ rfl
  clear R hR hT
  by_cases z : re = 0
  · subst z
    go_enter Tryd.func10, Tryd.ntmps10
    go_wp2_with (first
      | (go_at_call 7; ((with_reducible refine (known_7 _).mono ?_); rintro E w0 ⟨rfl, rfl⟩))
      | (go_at_call 16; ((with_reducible refine (one_7 k x a n s r f l _ (HT.out.up (by (repeat' (first | (with_reducible exact Up.refl _) | (with_reducible assumption) | (with_reducible refine Up.alloc ?_ _) | (with_reducible refine Up.drew ?_) | (with_reducible refine Up.drewN ?_ _) | (with_reducible refine Up.setCell ?_ ?_ _) | (with_reducible refine Up.call ?_ (by with_reducible assumption)) | go_size)))) _ _ _ HR.out).mono ?_); rintro E w1 ⟨rfl, hu1⟩; have k_w1 := hu1.cells.1; have f_w1 := hu1.cells.2; have z_w1 := hu1.size; (try simp at z_w1); have l0_w1 : w.heap.size < w1.heap.size := (by omega); (try clear q0 y0 q1 y1 q2 y2 q3 y3 q4 y4 q5 y5 q6 y6 q7 y7); have RZ_w1 : Row w1 (w.heap.size) #[.int .i64 0, .bool false, .int .i64 0, .int .i64 0, .string ⟨#[]⟩, .int .i64 0, .int .i64 0, .int .i64 0] := Row.up (by (repeat' (first | (with_reducible assumption) | (with_reducible refine Row.at _ _ ?_; (simp; done)) | (with_reducible refine Row.alloc ?_ _) | (with_reducible refine Row.drew ?_) | (with_reducible refine Row.drewN ?_ _) | (with_reducible refine Row.other ?_ (by first | (simp; done) | (simp; omega) | omega) _) | (with_reducible refine Row.up ?_ (by with_reducible assumption)) | (with_reducible refine Row.chg ?_ (by with_reducible assumption) (by first | (simp; done) | (simp; omega)))))) hu1; obtain ⟨q0, y0, q1, y1, q2, y2, q3, y3, q4, y4, q5, y5, q6, y6, q7, y7⟩ := zrow_out RZ_w1)))
    go_ret2
    exact ⟨Or.inl ⟨rfl, w1.heap.size, by omega, rfl, by (repeat' (first | (with_reducible assumption) | (with_reducible refine Row.at _ _ ?_; (simp; done)) | (with_reducible refine Row.alloc ?_ _) | (with_reducible refine Row.drew ?_) | (with_reducible refine Row.drewN ?_ _) | (with_reducible refine Row.other ?_ (by first | (simp; done) | (simp; omega) | omega) _) | (with_reducible refine Row.up ?_ (by with_reducible assumption)) | (with_reducible refine Row.chg ?_ (by with_reducible assumption) (by first | (simp; done) | (simp; omega)))))⟩, by (repeat' (first | (with_reducible exact Up.refl _) | (with_reducible assumption) | (with_reducible refine Up.alloc ?_ _) | (with_reducible refine Up.drew ?_) | (with_reducible refine Up.drewN ?_ _) | (with_reducible refine Up.setCell ?_ ?_ _) | (with_reducible refine Up.call ?_ (by with_reducible assumption)) | go_size))⟩
  · have dz : (re == 0) = false := by simpa using z
    have HZ := Lib.hid z
    clear z
    go_enter Tryd.func10, Tryd.ntmps10
    go_wp2_with (first
      | (go_at_call 7; ((with_reducible refine (known_7 _).mono ?_); rintro E w0 ⟨rfl, rfl⟩))
      | (go_at_call 16; ((with_reducible refine (one_7 k x a n s r f l _ (HT.out.up (by (repeat' (first | (with_reducible exact Up.refl _) | (with_reducible assumption) | (with_reducible refine Up.alloc ?_ _) | (with_reducible refine Up.drew ?_) | (with_reducible refine Up.drewN ?_ _) | (with_reducible refine Up.setCell ?_ ?_ _) | (with_reducible refine Up.call ?_ (by with_reducible assumption)) | go_size)))) _ _ _ HR.out).mono ?_); rintro E w1 ⟨rfl, hu1⟩; have k_w1 := hu1.cells.1; have f_w1 := hu1.cells.2; have z_w1 := hu1.size; (try simp at z_w1); have l0_w1 : w.heap.size < w1.heap.size := (by omega); (try clear q0 y0 q1 y1 q2 y2 q3 y3 q4 y4 q5 y5 q6 y6 q7 y7); have RZ_w1 : Row w1 (w.heap.size) #[.int .i64 0, .bool false, .int .i64 0, .int .i64 0, .string ⟨#[]⟩, .int .i64 0, .int .i64 0, .int .i64 0] := Row.up (by (repeat' (first | (with_reducible assumption) | (with_reducible refine Row.at _ _ ?_; (simp; done)) | (with_reducible refine Row.alloc ?_ _) | (with_reducible refine Row.drew ?_) | (with_reducible refine Row.drewN ?_ _) | (with_reducible refine Row.other ?_ (by first | (simp; done) | (simp; omega) | omega) _) | (with_reducible refine Row.up ?_ (by with_reducible assumption)) | (with_reducible refine Row.chg ?_ (by with_reducible assumption) (by first | (simp; done) | (simp; omega)))))) hu1; obtain ⟨q0, y0, q1, y1, q2, y2, q3, y3, q4, y4, q5, y5, q6, y6, q7, y7⟩ := zrow_out RZ_w1)))
    go_ret2
    exact ⟨Or.inr ⟨HZ.out, rfl⟩, by (repeat' (first | (with_reducible exact Up.refl _) | (with_reducible assumption) | (with_reducible refine Up.alloc ?_ _) | (with_reducible refine Up.drew ?_) | (with_reducible refine Up.drewN ?_ _) | (with_reducible refine Up.setCell ?_ ?_ _) | (with_reducible refine Up.call ?_ (by with_reducible assumption)) | go_size))⟩

set_option maxHeartbeats 1000000 in
theorem one_8 (k : Int) (x : Bool) (a n : Int) (s : ByteArray) (r f l : Int) (w : World) (hT : Turn.Tab w) (rk rn re : Int) (hR : un 8 k n = (rk, rn, re)) :
    Calls Tryd.prog 16 #[.string ⟨#[99, 111, 115]⟩, .agg #[.int .i64 k, .bool x, .int .i64 a, .int .i64 n, .string s, .int .i64 r, .int .i64 f, .int .i64 l]] w fun E w' => E = .returned (.tuple #[.agg #[.int .i64 rk, .bool false, .int .i64 0, .int .i64 rn, .string ⟨#[]⟩, .int .i64 0, .int .i64 0, .int .i64 0], .int .i64 re]) ∧ Up w w' := by
  have HT := Lib.hid hT
  clear hT
  cases hb : numb k n
  · obtain ⟨rfl, rfl, rfl⟩ : 0 = rk ∧ 0 = rn ∧ 16 = re := by simpa [un, hb, tcheck] using hR
    have HB := Lib.hid hb
    clear hR hb
    go_enter Tryd.func16, Tryd.ntmps16
    go_wp2_with (first
      | (go_at_call 35; ((with_reducible refine (number_calls _ x a n s r f l _).mono ?_); rintro E w1 ⟨rfl, hu1⟩; rw [HB.out]; have k_w1 := hu1.cells.1; have f_w1 := hu1.cells.2; have z_w1 := hu1.size; (try simp at z_w1); have l0_w1 : w.heap.size < w1.heap.size := (by omega); have l1_w1 : w.heap.size + 1 < w1.heap.size := (by omega); (try clear q0 y0 q1 y1 q2 y2 q3 y3 q4 y4 q5 y5 q6 y6 q7 y7); have RZ_w1 : Row w1 (w.heap.size + 1) #[.int .i64 0, .bool false, .int .i64 0, .int .i64 0, .string ⟨#[]⟩, .int .i64 0, .int .i64 0, .int .i64 0] := Row.up (by (repeat' (first | (with_reducible assumption) | (with_reducible refine Row.at _ _ ?_; (simp; done)) | (with_reducible refine Row.alloc ?_ _) | (with_reducible refine Row.drew ?_) | (with_reducible refine Row.drewN ?_ _) | (with_reducible refine Row.other ?_ (by first | (simp; done) | (simp; omega) | omega) _) | (with_reducible refine Row.up ?_ (by with_reducible assumption)) | (with_reducible refine Row.chg ?_ (by with_reducible assumption) (by first | (simp; done) | (simp; omega)))))) hu1; obtain ⟨q0, y0, q1, y1, q2, y2, q3, y3, q4, y4, q5, y5, q6, y6, q7, y7⟩ := zrow_out RZ_w1)))
    (try simp only [Exit.inBlock, Exit.then])
    refine bodyPost_ret (results_oe rfl _ _ (w.heap.size + 1) _ false 0 _ ⟨#[]⟩ 0 0 0 (by apply cast; (case h => (repeat (first | (with_reducible assumption) | (with_reducible apply Row.at; (simp; done)) | (with_reducible apply Row.alloc) | (with_reducible apply Row.drew) | (with_reducible apply Row.drewN) | (with_reducible apply Row.set) | ((with_reducible apply Row.other); (case hp => first | (simp; done) | (simp; omega) | omega))))); (case e => rfl)) rfl) rfl ?_
    exact ⟨rfl, by (repeat' (first | (with_reducible exact Up.refl _) | (with_reducible assumption) | (with_reducible refine Up.alloc ?_ _) | (with_reducible refine Up.drew ?_) | (with_reducible refine Up.drewN ?_ _) | (with_reducible refine Up.setCell ?_ ?_ _) | (with_reducible refine Up.call ?_ (by with_reducible assumption)) | go_size))⟩
  · have HS := Lib.hid (show curves 8 k n = (rk, rn, re) by simpa [un, hb] using hR)
    have HB := Lib.hid hb
    clear hR hb
    go_enter Tryd.func16, Tryd.ntmps16
    go_wp2_with (first
      | (go_at_call 35; ((with_reducible refine (number_calls _ x a n s r f l _).mono ?_); rintro E w1 ⟨rfl, hu1⟩; rw [HB.out]; have k_w1 := hu1.cells.1; have f_w1 := hu1.cells.2; have z_w1 := hu1.size; (try simp at z_w1); have l0_w1 : w.heap.size < w1.heap.size := (by omega); have l1_w1 : w.heap.size + 1 < w1.heap.size := (by omega); (try clear q0 y0 q1 y1 q2 y2 q3 y3 q4 y4 q5 y5 q6 y6 q7 y7); have RZ_w1 : Row w1 (w.heap.size + 1) #[.int .i64 0, .bool false, .int .i64 0, .int .i64 0, .string ⟨#[]⟩, .int .i64 0, .int .i64 0, .int .i64 0] := Row.up (by (repeat' (first | (with_reducible assumption) | (with_reducible refine Row.at _ _ ?_; (simp; done)) | (with_reducible refine Row.alloc ?_ _) | (with_reducible refine Row.drew ?_) | (with_reducible refine Row.drewN ?_ _) | (with_reducible refine Row.other ?_ (by first | (simp; done) | (simp; omega) | omega) _) | (with_reducible refine Row.up ?_ (by with_reducible assumption)) | (with_reducible refine Row.chg ?_ (by with_reducible assumption) (by first | (simp; done) | (simp; omega)))))) hu1; obtain ⟨q0, y0, q1, y1, q2, y2, q3, y3, q4, y4, q5, y5, q6, y6, q7, y7⟩ := zrow_out RZ_w1))
      | (go_at_call 43; ((with_reducible refine (curves_8 k x a n s r f l _ (HT.out.up (by (repeat' (first | (with_reducible exact Up.refl _) | (with_reducible assumption) | (with_reducible refine Up.alloc ?_ _) | (with_reducible refine Up.drew ?_) | (with_reducible refine Up.drewN ?_ _) | (with_reducible refine Up.setCell ?_ ?_ _) | (with_reducible refine Up.call ?_ (by with_reducible assumption)) | go_size)))) _ _ _ HS.out).mono ?_); rintro E w2 ⟨rfl, hu2⟩; have k_w2 := hu2.cells.1; have f_w2 := hu2.cells.2; have z_w2 := hu2.size; (try simp at z_w2); have l0_w2 : w.heap.size < w2.heap.size := (by omega); have l1_w2 : w.heap.size + 1 < w2.heap.size := (by omega); (try clear q0 y0 q1 y1 q2 y2 q3 y3 q4 y4 q5 y5 q6 y6 q7 y7); have RZ_w2 : Row w2 (w.heap.size + 1) #[.int .i64 0, .bool false, .int .i64 0, .int .i64 0, .string ⟨#[]⟩, .int .i64 0, .int .i64 0, .int .i64 0] := Row.up (by (repeat' (first | (with_reducible assumption) | (with_reducible refine Row.at _ _ ?_; (simp; done)) | (with_reducible refine Row.alloc ?_ _) | (with_reducible refine Row.drew ?_) | (with_reducible refine Row.drewN ?_ _) | (with_reducible refine Row.other ?_ (by first | (simp; done) | (simp; omega) | omega) _) | (with_reducible refine Row.up ?_ (by with_reducible assumption)) | (with_reducible refine Row.chg ?_ (by with_reducible assumption) (by first | (simp; done) | (simp; omega)))))) hu2; obtain ⟨q0, y0, q1, y1, q2, y2, q3, y3, q4, y4, q5, y5, q6, y6, q7, y7⟩ := zrow_out RZ_w2)))
    (try simp only [Exit.inBlock, Exit.then])
    refine bodyPost_ret (results_oe rfl _ _ (w.heap.size + 1) _ false 0 _ ⟨#[]⟩ 0 0 0 (by apply cast; (case h => (repeat (first | (with_reducible assumption) | (with_reducible apply Row.at; (simp; done)) | (with_reducible apply Row.alloc) | (with_reducible apply Row.drew) | (with_reducible apply Row.drewN) | (with_reducible apply Row.set) | ((with_reducible apply Row.other); (case hp => first | (simp; done) | (simp; omega) | omega))))); (case e => rfl)) rfl) rfl ?_
    exact ⟨rfl, by (repeat' (first | (with_reducible exact Up.refl _) | (with_reducible assumption) | (with_reducible refine Up.alloc ?_ _) | (with_reducible refine Up.drew ?_) | (with_reducible refine Up.drewN ?_ _) | (with_reducible refine Up.setCell ?_ ?_ _) | (with_reducible refine Up.call ?_ (by with_reducible assumption)) | go_size))⟩

set_option maxHeartbeats 1000000 in
theorem do_8 (k : Int) (x : Bool) (a n : Int) (s : ByteArray) (r f l : Int) (g c : Nat) (w : World) (hT : Turn.Tab w) (R : Cs w g #[.int .i64 k, .bool x, .int .i64 a, .int .i64 n, .string s, .int .i64 r, .int .i64 f, .int .i64 l]) (hg : g < w.heap.size) (rk rn re : Int) (hR : un 8 k n = (rk, rn, re)) :
    Calls Tryd.prog 10 #[.string ⟨#[99, 111, 115]⟩, .slice (some ⟨g, 0, none⟩) 1 c] w fun E w' => Gives w rk rn re E w' ∧ Up w w' := by
  have HT := Lib.hid hT
  have HR := Lib.hid hR
  have hg1 : g < w.heap.size + 1 := by omega
  have hgn : ¬ w.heap.size = g := by omega
  have c0 := R 0 _ rfl
  have c1 := R 1 _ rfl
  have c2 := R 2 _ rfl
  have c3 := R 3 _ rfl
  have c4 := R 4 _ rfl
  have c5 := R 5 _ rfl
  have c6 := R 6 _ rfl
  have c7 := R 7 _ rfl
  clear R hR hT
  by_cases z : re = 0
  · subst z
    go_enter Tryd.func10, Tryd.ntmps10
    go_wp2_with (first
      | (go_at_call 7; ((with_reducible refine (known_8 _).mono ?_); rintro E w0 ⟨rfl, rfl⟩))
      | (go_at_call 16; ((with_reducible refine (one_8 k x a n s r f l _ (HT.out.up (by (repeat' (first | (with_reducible exact Up.refl _) | (with_reducible assumption) | (with_reducible refine Up.alloc ?_ _) | (with_reducible refine Up.drew ?_) | (with_reducible refine Up.drewN ?_ _) | (with_reducible refine Up.setCell ?_ ?_ _) | (with_reducible refine Up.call ?_ (by with_reducible assumption)) | go_size)))) _ _ _ HR.out).mono ?_); rintro E w1 ⟨rfl, hu1⟩; have k_w1 := hu1.cells.1; have f_w1 := hu1.cells.2; have z_w1 := hu1.size; (try simp at z_w1); have l0_w1 : w.heap.size < w1.heap.size := (by omega); (try clear q0 y0 q1 y1 q2 y2 q3 y3 q4 y4 q5 y5 q6 y6 q7 y7); have RZ_w1 : Row w1 (w.heap.size) #[.int .i64 0, .bool false, .int .i64 0, .int .i64 0, .string ⟨#[]⟩, .int .i64 0, .int .i64 0, .int .i64 0] := Row.up (by (repeat' (first | (with_reducible assumption) | (with_reducible refine Row.at _ _ ?_; (simp; done)) | (with_reducible refine Row.alloc ?_ _) | (with_reducible refine Row.drew ?_) | (with_reducible refine Row.drewN ?_ _) | (with_reducible refine Row.other ?_ (by first | (simp; done) | (simp; omega) | omega) _) | (with_reducible refine Row.up ?_ (by with_reducible assumption)) | (with_reducible refine Row.chg ?_ (by with_reducible assumption) (by first | (simp; done) | (simp; omega)))))) hu1; obtain ⟨q0, y0, q1, y1, q2, y2, q3, y3, q4, y4, q5, y5, q6, y6, q7, y7⟩ := zrow_out RZ_w1)))
    go_ret2
    exact ⟨Or.inl ⟨rfl, w1.heap.size, by omega, rfl, by (repeat' (first | (with_reducible assumption) | (with_reducible refine Row.at _ _ ?_; (simp; done)) | (with_reducible refine Row.alloc ?_ _) | (with_reducible refine Row.drew ?_) | (with_reducible refine Row.drewN ?_ _) | (with_reducible refine Row.other ?_ (by first | (simp; done) | (simp; omega) | omega) _) | (with_reducible refine Row.up ?_ (by with_reducible assumption)) | (with_reducible refine Row.chg ?_ (by with_reducible assumption) (by first | (simp; done) | (simp; omega)))))⟩, by (repeat' (first | (with_reducible exact Up.refl _) | (with_reducible assumption) | (with_reducible refine Up.alloc ?_ _) | (with_reducible refine Up.drew ?_) | (with_reducible refine Up.drewN ?_ _) | (with_reducible refine Up.setCell ?_ ?_ _) | (with_reducible refine Up.call ?_ (by with_reducible assumption)) | go_size))⟩
  · have dz : (re == 0) = false := by simpa using z
    have HZ := Lib.hid z
    clear z
    go_enter Tryd.func10, Tryd.ntmps10
    go_wp2_with (first
      | (go_at_call 7; ((with_reducible refine (known_8 _).mono ?_); rintro E w0 ⟨rfl, rfl⟩))
      | (go_at_call 16; ((with_reducible refine (one_8 k x a n s r f l _ (HT.out.up (by (repeat' (first | (with_reducible exact Up.refl _) | (with_reducible assumption) | (with_reducible refine Up.alloc ?_ _) | (with_reducible refine Up.drew ?_) | (with_reducible refine Up.drewN ?_ _) | (with_reducible refine Up.setCell ?_ ?_ _) | (with_reducible refine Up.call ?_ (by with_reducible assumption)) | go_size)))) _ _ _ HR.out).mono ?_); rintro E w1 ⟨rfl, hu1⟩; have k_w1 := hu1.cells.1; have f_w1 := hu1.cells.2; have z_w1 := hu1.size; (try simp at z_w1); have l0_w1 : w.heap.size < w1.heap.size := (by omega); (try clear q0 y0 q1 y1 q2 y2 q3 y3 q4 y4 q5 y5 q6 y6 q7 y7); have RZ_w1 : Row w1 (w.heap.size) #[.int .i64 0, .bool false, .int .i64 0, .int .i64 0, .string ⟨#[]⟩, .int .i64 0, .int .i64 0, .int .i64 0] := Row.up (by (repeat' (first | (with_reducible assumption) | (with_reducible refine Row.at _ _ ?_; (simp; done)) | (with_reducible refine Row.alloc ?_ _) | (with_reducible refine Row.drew ?_) | (with_reducible refine Row.drewN ?_ _) | (with_reducible refine Row.other ?_ (by first | (simp; done) | (simp; omega) | omega) _) | (with_reducible refine Row.up ?_ (by with_reducible assumption)) | (with_reducible refine Row.chg ?_ (by with_reducible assumption) (by first | (simp; done) | (simp; omega)))))) hu1; obtain ⟨q0, y0, q1, y1, q2, y2, q3, y3, q4, y4, q5, y5, q6, y6, q7, y7⟩ := zrow_out RZ_w1)))
    go_ret2
    exact ⟨Or.inr ⟨HZ.out, rfl⟩, by (repeat' (first | (with_reducible exact Up.refl _) | (with_reducible assumption) | (with_reducible refine Up.alloc ?_ _) | (with_reducible refine Up.drew ?_) | (with_reducible refine Up.drewN ?_ _) | (with_reducible refine Up.setCell ?_ ?_ _) | (with_reducible refine Up.call ?_ (by with_reducible assumption)) | go_size))⟩

/-- a name of no operator -/
def Other (l : List UInt8) : Prop := (l == [110, 101, 103]) = false ∧ (l == [97, 98, 115]) = false ∧ (l == [99, 101, 105, 108, 105, 110, 103]) = false ∧ (l == [102, 108, 111, 111, 114]) = false ∧ (l == [114, 111, 117, 110, 100]) = false ∧ (l == [116, 114, 117, 110, 99, 97, 116, 101]) = false ∧ (l == [115, 113, 114, 116]) = false ∧ (l == [115, 105, 110]) = false ∧ (l == [99, 111, 115]) = false ∧ (l == [110, 111, 116]) = false ∧ (l == [97, 100, 100]) = false ∧ (l == [115, 117, 98]) = false ∧ (l == [109, 117, 108]) = false ∧ (l == [100, 105, 118]) = false ∧ (l == [105, 100, 105, 118]) = false ∧ (l == [109, 111, 100]) = false ∧ (l == [97, 110, 100]) = false ∧ (l == [111, 114]) = false ∧ (l == [120, 111, 114]) = false ∧ (l == [98, 105, 116, 115, 104, 105, 102, 116]) = false ∧ (l == [103, 116]) = false ∧ (l == [103, 101]) = false ∧ (l == [108, 116]) = false ∧ (l == [108, 101]) = false
set_option maxHeartbeats 1000000 in
theorem known_none (l : List UInt8) (h : Other l) (w : World) : Calls Tryd.prog 7 #[.string ⟨l.toArray⟩] w fun e w' => e = .returned (.tuple #[.int .i64 0, .bool false]) ∧ w = w' := by
  obtain ⟨h0, h1, h2, h3, h4, h5, h6, h7, h8, h9, h10, h11, h12, h13, h14, h15, h16, h17, h18, h19, h20, h21, h22, h23⟩ := h
  go_enter Tryd.func7, Tryd.ntmps7
  go_wp2
  go_ret2
  exact ⟨rfl, rfl⟩
set_option maxHeartbeats 1000000 in
theorem count_none (l : List UInt8) (h : Other l) (w : World) : Calls Tryd.prog 9 #[.string ⟨l.toArray⟩] w fun e w' => e = .returned (.int .i64 0) ∧ w = w' := by
  obtain ⟨h0, h1, h2, h3, h4, h5, h6, h7, h8, h9, h10, h11, h12, h13, h14, h15, h16, h17, h18, h19, h20, h21, h22, h23⟩ := h
  go_enter Tryd.func9, Tryd.ntmps9
  go_wp2
  go_ret
  exact ⟨rfl, rfl⟩

theorem count_0 (w : World) : Calls Tryd.prog 9 #[.string ⟨#[110, 101, 103]⟩] w fun e w' => e = .returned (.int .i64 1) ∧ w = w' := by
  go_enter Tryd.func9, Tryd.ntmps9
  go_wp2
  go_ret
  exact ⟨rfl, rfl⟩
theorem count_1 (w : World) : Calls Tryd.prog 9 #[.string ⟨#[97, 98, 115]⟩] w fun e w' => e = .returned (.int .i64 1) ∧ w = w' := by
  go_enter Tryd.func9, Tryd.ntmps9
  go_wp2
  go_ret
  exact ⟨rfl, rfl⟩
theorem count_2 (w : World) : Calls Tryd.prog 9 #[.string ⟨#[99, 101, 105, 108, 105, 110, 103]⟩] w fun e w' => e = .returned (.int .i64 1) ∧ w = w' := by
  go_enter Tryd.func9, Tryd.ntmps9
  go_wp2
  go_ret
  exact ⟨rfl, rfl⟩
theorem count_3 (w : World) : Calls Tryd.prog 9 #[.string ⟨#[102, 108, 111, 111, 114]⟩] w fun e w' => e = .returned (.int .i64 1) ∧ w = w' := by
  go_enter Tryd.func9, Tryd.ntmps9
  go_wp2
  go_ret
  exact ⟨rfl, rfl⟩
theorem count_4 (w : World) : Calls Tryd.prog 9 #[.string ⟨#[114, 111, 117, 110, 100]⟩] w fun e w' => e = .returned (.int .i64 1) ∧ w = w' := by
  go_enter Tryd.func9, Tryd.ntmps9
  go_wp2
  go_ret
  exact ⟨rfl, rfl⟩
theorem count_5 (w : World) : Calls Tryd.prog 9 #[.string ⟨#[116, 114, 117, 110, 99, 97, 116, 101]⟩] w fun e w' => e = .returned (.int .i64 1) ∧ w = w' := by
  go_enter Tryd.func9, Tryd.ntmps9
  go_wp2
  go_ret
  exact ⟨rfl, rfl⟩
theorem count_6 (w : World) : Calls Tryd.prog 9 #[.string ⟨#[115, 113, 114, 116]⟩] w fun e w' => e = .returned (.int .i64 1) ∧ w = w' := by
  go_enter Tryd.func9, Tryd.ntmps9
  go_wp2
  go_ret
  exact ⟨rfl, rfl⟩
theorem count_7 (w : World) : Calls Tryd.prog 9 #[.string ⟨#[115, 105, 110]⟩] w fun e w' => e = .returned (.int .i64 1) ∧ w = w' := by
  go_enter Tryd.func9, Tryd.ntmps9
  go_wp2
  go_ret
  exact ⟨rfl, rfl⟩
theorem count_8 (w : World) : Calls Tryd.prog 9 #[.string ⟨#[99, 111, 115]⟩] w fun e w' => e = .returned (.int .i64 1) ∧ w = w' := by
  go_enter Tryd.func9, Tryd.ntmps9
  go_wp2
  go_ret
  exact ⟨rfl, rfl⟩
theorem count_9 (w : World) : Calls Tryd.prog 9 #[.string ⟨#[110, 111, 116]⟩] w fun e w' => e = .returned (.int .i64 1) ∧ w = w' := by
  go_enter Tryd.func9, Tryd.ntmps9
  go_wp2
  go_ret
  exact ⟨rfl, rfl⟩
theorem count_10 (w : World) : Calls Tryd.prog 9 #[.string ⟨#[97, 100, 100]⟩] w fun e w' => e = .returned (.int .i64 2) ∧ w = w' := by
  go_enter Tryd.func9, Tryd.ntmps9
  go_wp2
  go_ret
  exact ⟨rfl, rfl⟩
theorem count_11 (w : World) : Calls Tryd.prog 9 #[.string ⟨#[115, 117, 98]⟩] w fun e w' => e = .returned (.int .i64 2) ∧ w = w' := by
  go_enter Tryd.func9, Tryd.ntmps9
  go_wp2
  go_ret
  exact ⟨rfl, rfl⟩
theorem count_12 (w : World) : Calls Tryd.prog 9 #[.string ⟨#[109, 117, 108]⟩] w fun e w' => e = .returned (.int .i64 2) ∧ w = w' := by
  go_enter Tryd.func9, Tryd.ntmps9
  go_wp2
  go_ret
  exact ⟨rfl, rfl⟩
theorem count_13 (w : World) : Calls Tryd.prog 9 #[.string ⟨#[100, 105, 118]⟩] w fun e w' => e = .returned (.int .i64 2) ∧ w = w' := by
  go_enter Tryd.func9, Tryd.ntmps9
  go_wp2
  go_ret
  exact ⟨rfl, rfl⟩
theorem count_14 (w : World) : Calls Tryd.prog 9 #[.string ⟨#[105, 100, 105, 118]⟩] w fun e w' => e = .returned (.int .i64 2) ∧ w = w' := by
  go_enter Tryd.func9, Tryd.ntmps9
  go_wp2
  go_ret
  exact ⟨rfl, rfl⟩
theorem count_15 (w : World) : Calls Tryd.prog 9 #[.string ⟨#[109, 111, 100]⟩] w fun e w' => e = .returned (.int .i64 2) ∧ w = w' := by
  go_enter Tryd.func9, Tryd.ntmps9
  go_wp2
  go_ret
  exact ⟨rfl, rfl⟩
theorem count_16 (w : World) : Calls Tryd.prog 9 #[.string ⟨#[97, 110, 100]⟩] w fun e w' => e = .returned (.int .i64 2) ∧ w = w' := by
  go_enter Tryd.func9, Tryd.ntmps9
  go_wp2
  go_ret
  exact ⟨rfl, rfl⟩
theorem count_17 (w : World) : Calls Tryd.prog 9 #[.string ⟨#[111, 114]⟩] w fun e w' => e = .returned (.int .i64 2) ∧ w = w' := by
  go_enter Tryd.func9, Tryd.ntmps9
  go_wp2
  go_ret
  exact ⟨rfl, rfl⟩
theorem count_18 (w : World) : Calls Tryd.prog 9 #[.string ⟨#[120, 111, 114]⟩] w fun e w' => e = .returned (.int .i64 2) ∧ w = w' := by
  go_enter Tryd.func9, Tryd.ntmps9
  go_wp2
  go_ret
  exact ⟨rfl, rfl⟩
theorem count_19 (w : World) : Calls Tryd.prog 9 #[.string ⟨#[98, 105, 116, 115, 104, 105, 102, 116]⟩] w fun e w' => e = .returned (.int .i64 2) ∧ w = w' := by
  go_enter Tryd.func9, Tryd.ntmps9
  go_wp2
  go_ret
  exact ⟨rfl, rfl⟩
theorem count_20 (w : World) : Calls Tryd.prog 9 #[.string ⟨#[103, 116]⟩] w fun e w' => e = .returned (.int .i64 2) ∧ w = w' := by
  go_enter Tryd.func9, Tryd.ntmps9
  go_wp2
  go_ret
  exact ⟨rfl, rfl⟩
theorem count_21 (w : World) : Calls Tryd.prog 9 #[.string ⟨#[103, 101]⟩] w fun e w' => e = .returned (.int .i64 2) ∧ w = w' := by
  go_enter Tryd.func9, Tryd.ntmps9
  go_wp2
  go_ret
  exact ⟨rfl, rfl⟩
theorem count_22 (w : World) : Calls Tryd.prog 9 #[.string ⟨#[108, 116]⟩] w fun e w' => e = .returned (.int .i64 2) ∧ w = w' := by
  go_enter Tryd.func9, Tryd.ntmps9
  go_wp2
  go_ret
  exact ⟨rfl, rfl⟩
theorem count_23 (w : World) : Calls Tryd.prog 9 #[.string ⟨#[108, 101]⟩] w fun e w' => e = .returned (.int .i64 2) ∧ w = w' := by
  go_enter Tryd.func9, Tryd.ntmps9
  go_wp2
  go_ret
  exact ⟨rfl, rfl⟩
theorem do_bad (s : ByteArray) (n : Int) (ok : Bool) (ad : Option Addr) (m c : Nat) (hK : ∀ w, Calls Tryd.prog 7 #[.string s] w fun e w' => e = .returned (.tuple #[.int .i64 n, .bool ok]) ∧ w = w') (h : ok = false ∨ (n == (m : Int)) = false) (w : World) :
    Calls Tryd.prog 10 #[.string s, .slice ad m c] w fun E w' => E = .returned (.tuple #[.slice none 0 0, .int .i64 21]) ∧ Up w w' := by
  cases ok
  · go_enter Tryd.func10, Tryd.ntmps10
    go_wp2_with (first
      | (go_at_call 7; ((with_reducible refine (hK _).mono ?_); rintro E w0 ⟨rfl, rfl⟩)))
    go_ret2
    exact ⟨rfl, by (repeat' (first | (with_reducible exact Up.refl _) | (with_reducible assumption) | (with_reducible refine Up.alloc ?_ _) | (with_reducible refine Up.drew ?_) | (with_reducible refine Up.drewN ?_ _) | (with_reducible refine Up.setCell ?_ ?_ _) | (with_reducible refine Up.call ?_ (by with_reducible assumption)) | go_size))⟩
  · have h2 : (n == (m : Int)) = false := h.resolve_left (by decide)
    go_enter Tryd.func10, Tryd.ntmps10
    go_wp2_with (first
      | (go_at_call 7; ((with_reducible refine (hK _).mono ?_); rintro E w0 ⟨rfl, rfl⟩)))
    go_ret2
    exact ⟨rfl, by (repeat' (first | (with_reducible exact Up.refl _) | (with_reducible assumption) | (with_reducible refine Up.alloc ?_ _) | (with_reducible refine Up.drew ?_) | (with_reducible refine Up.drewN ?_ _) | (with_reducible refine Up.setCell ?_ ?_ _) | (with_reducible refine Up.call ?_ (by with_reducible assumption)) | go_size))⟩

end Go.Proofs.YtakickodehebmaaDoor.Ar