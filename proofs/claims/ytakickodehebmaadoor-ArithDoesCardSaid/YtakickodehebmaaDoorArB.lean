/- Whether all of two objects are of a kind: package arith. -/
import Derived.Test.YtakickodehebmaaDoorArA
import Derived.Test.YtakickodehebmaaDoorArgs
namespace Go.Proofs.YtakickodehebmaaDoor.Ar
open Go.ChangeShapes Go.WideShapes Go.ChangeAt Go.RowKit
open Go.Proofs.YtakickodehebmaaDoor.FixM (fits within)
open Go.Proofs.YtakickodehebmaaDoor.ArM
set_option linter.unusedVariables false
set_option linter.unusedSimpArgs false

theorem all1_truth (k : Int) (x : Bool) (a n : Int) (s : ByteArray) (r f l : Int) (bx : Nat) (w : World) (hc : w.cell? ⟨bx, 0, none⟩ = some (.func (.func 38) #[] #[])) (hl : bx < w.heap.size) (v : Bool) (hv : isT k n = v) :
    Calls Tryd.prog 73 #[.agg #[.int .i64 k, .bool x, .int .i64 a, .int .i64 n, .string s, .int .i64 r, .int .i64 f, .int .i64 l], .pointer (some ⟨bx, 0, none⟩)] w fun e w' => e = .returned (.bool (!v)) ∧ Up w w' := by
  have HV := Lib.hid hv
  have hl1 : bx < w.heap.size + 1 := by omega
  clear hv
  go_enter Tryd.func73, Tryd.ntmps73
  go_wp2_with (go_at_call 38; ((with_reducible refine (isTruth_calls k x a n s r f l _).mono ?_); rintro E w1 ⟨rfl, hu1⟩; rw [HV.out]))
  go_ret
  exact ⟨rfl, by (repeat' (first | (with_reducible exact Up.refl _) | (with_reducible assumption) | (with_reducible refine Up.alloc ?_ _) | (with_reducible refine Up.drew ?_) | (with_reducible refine Up.drewN ?_ _) | (with_reducible refine Up.setCell ?_ ?_ _) | (with_reducible refine Up.call ?_ (by with_reducible assumption)) | go_size))⟩

set_option maxRecDepth 4000 in
theorem index_truth (k : Int) (x : Bool) (a n : Int) (s : ByteArray) (r f l : Int) (k' : Int) (x' : Bool) (a' n' : Int) (s' : ByteArray) (r' f' l' : Int) (g c : Nat) (bx : Nat) (w : World) (R : Row w g #[.int .i64 k, .bool x, .int .i64 a, .int .i64 n, .string s, .int .i64 r, .int .i64 f, .int .i64 l, .int .i64 k', .bool x', .int .i64 a', .int .i64 n', .string s', .int .i64 r', .int .i64 f', .int .i64 l']) (hc : w.cell? ⟨bx, 0, none⟩ = some (.func (.func 38) #[] #[])) (hb : bx < w.heap.size) (v : Bool) (hv : (isT k n && isT k' n') = v) :
    Calls Tryd.prog 82 #[.slice (some ⟨g, 0, none⟩) 2 c, .func (.func 73) #[] #[.pointer (some ⟨bx, 0, none⟩)]] w fun e w' => (∃ i : Int, e = .returned (.int .i64 i) ∧ decide (0 ≤ i) = !v) ∧ Up w w' := by
  have hl := R.lt
  have HR := Lib.hid R
  have c0 := R.cell 0 rfl
  have c1 := R.cell 1 rfl
  have c2 := R.cell 2 rfl
  have c3 := R.cell 3 rfl
  have c4 := R.cell 4 rfl
  have c5 := R.cell 5 rfl
  have c6 := R.cell 6 rfl
  have c7 := R.cell 7 rfl
  have c8 := R.cell 8 rfl
  have c9 := R.cell 9 rfl
  have c10 := R.cell 10 rfl
  have c11 := R.cell 11 rfl
  have c12 := R.cell 12 rfl
  have c13 := R.cell 13 rfl
  have c14 := R.cell 14 rfl
  have c15 := R.cell 15 rfl
  obtain ⟨v1, h1⟩ : ∃ v1, isT k n = v1 := ⟨_, rfl⟩
  obtain ⟨v2, h2⟩ : ∃ v2, isT k' n' = v2 := ⟨_, rfl⟩
  have H1 := Lib.hid h1
  have H2 := Lib.hid h2
  have HV := Lib.hid (show (v1 && v2) = v by rw [← h1, ← h2]; exact hv)
  clear h1 h2 hv R
  cases v1
  · have HV := Lib.hid (show false = v from HV.out)
    go_enter Tryd.func82, Tryd.ntmps82
    go_wp2
    refine wp_loop_rounds 3 ?_
    rw [rounds_succ]
    go_wp2_with (go_at_call 73; ((with_reducible refine (all1_truth k x a n s r f l bx _ hc hb false H1.out).mono ?_); rintro E w1 ⟨rfl, hu1⟩))
    go_ret
    exact ⟨⟨_, rfl, by rw [← HV.out]; rfl⟩, by (repeat' (first | (with_reducible exact Up.refl _) | (with_reducible assumption) | (with_reducible refine Up.alloc ?_ _) | (with_reducible refine Up.drew ?_) | (with_reducible refine Up.drewN ?_ _) | (with_reducible refine Up.setCell ?_ ?_ _) | (with_reducible refine Up.call ?_ (by with_reducible assumption)) | go_size))⟩
  · cases v2
    · have HV := Lib.hid (show false = v from HV.out)
      go_enter Tryd.func82, Tryd.ntmps82
      go_wp2
      refine wp_loop_rounds 3 ?_
      rw [rounds_succ]
      go_wp2_with (go_at_call 73; ((with_reducible refine (all1_truth k x a n s r f l bx _ hc hb true H1.out).mono ?_); rintro E w1 ⟨rfl, hu1⟩; have hbx := (hu1.cells.1 bx 0 hb).trans hc; have hb1 : bx < w1.heap.size := Nat.lt_of_lt_of_le hb hu1.size; have d8 := (hu1.cells.1 g 8 hl).trans c8; have d9 := (hu1.cells.1 g 9 hl).trans c9; have d10 := (hu1.cells.1 g 10 hl).trans c10; have d11 := (hu1.cells.1 g 11 hl).trans c11; have d12 := (hu1.cells.1 g 12 hl).trans c12; have d13 := (hu1.cells.1 g 13 hl).trans c13; have d14 := (hu1.cells.1 g 14 hl).trans c14; have d15 := (hu1.cells.1 g 15 hl).trans c15; clear hc))
      rw [rounds_succ]
      go_wp2_with (go_at_call 73; ((with_reducible refine (all1_truth k' x' a' n' s' r' f' l' bx _ hbx hb1 false H2.out).mono ?_); rintro E w2 ⟨rfl, hu2⟩))
      go_ret
      exact ⟨⟨_, rfl, by rw [← HV.out]; rfl⟩, by (repeat' (first | (with_reducible exact Up.refl _) | (with_reducible assumption) | (with_reducible refine Up.alloc ?_ _) | (with_reducible refine Up.drew ?_) | (with_reducible refine Up.drewN ?_ _) | (with_reducible refine Up.setCell ?_ ?_ _) | (with_reducible refine Up.call ?_ (by with_reducible assumption)) | go_size))⟩
    · have HV := Lib.hid (show true = v from HV.out)
      go_enter Tryd.func82, Tryd.ntmps82
      go_wp2
      refine wp_loop_rounds 3 ?_
      rw [rounds_succ]
      go_wp2_with (go_at_call 73; ((with_reducible refine (all1_truth k x a n s r f l bx _ hc hb true H1.out).mono ?_); rintro E w1 ⟨rfl, hu1⟩; have hbx := (hu1.cells.1 bx 0 hb).trans hc; have hb1 : bx < w1.heap.size := Nat.lt_of_lt_of_le hb hu1.size; have d8 := (hu1.cells.1 g 8 hl).trans c8; have d9 := (hu1.cells.1 g 9 hl).trans c9; have d10 := (hu1.cells.1 g 10 hl).trans c10; have d11 := (hu1.cells.1 g 11 hl).trans c11; have d12 := (hu1.cells.1 g 12 hl).trans c12; have d13 := (hu1.cells.1 g 13 hl).trans c13; have d14 := (hu1.cells.1 g 14 hl).trans c14; have d15 := (hu1.cells.1 g 15 hl).trans c15; clear hc))
      rw [rounds_succ]
      go_wp2_with (go_at_call 73; ((with_reducible refine (all1_truth k' x' a' n' s' r' f' l' bx _ hbx hb1 true H2.out).mono ?_); rintro E w2 ⟨rfl, hu2⟩))
      rw [rounds_succ]
      go_wp2
      go_ret
      exact ⟨⟨_, rfl, by rw [← HV.out]; rfl⟩, by (repeat' (first | (with_reducible exact Up.refl _) | (with_reducible assumption) | (with_reducible refine Up.alloc ?_ _) | (with_reducible refine Up.drew ?_) | (with_reducible refine Up.drewN ?_ _) | (with_reducible refine Up.setCell ?_ ?_ _) | (with_reducible refine Up.call ?_ (by with_reducible assumption)) | go_size))⟩

theorem contains_truth (k : Int) (x : Bool) (a n : Int) (s : ByteArray) (r f l : Int) (k' : Int) (x' : Bool) (a' n' : Int) (s' : ByteArray) (r' f' l' : Int) (g c : Nat) (bx : Nat) (w : World) (R : Row w g #[.int .i64 k, .bool x, .int .i64 a, .int .i64 n, .string s, .int .i64 r, .int .i64 f, .int .i64 l, .int .i64 k', .bool x', .int .i64 a', .int .i64 n', .string s', .int .i64 r', .int .i64 f', .int .i64 l']) (hc : w.cell? ⟨bx, 0, none⟩ = some (.func (.func 38) #[] #[])) (hb : bx < w.heap.size) (v : Bool) (hv : (isT k n && isT k' n') = v) :
    Calls Tryd.prog 72 #[.slice (some ⟨g, 0, none⟩) 2 c, .func (.func 73) #[] #[.pointer (some ⟨bx, 0, none⟩)]] w fun e w' => e = .returned (.bool (!v)) ∧ Up w w' := by
  have HR := Lib.hid R
  have HC := Lib.hid hc
  have HV := Lib.hid hv
  clear R hc hv
  go_enter Tryd.func72, Tryd.ntmps72
  go_wp2_with (go_at_call 82; ((with_reducible refine (index_truth k x a n s r f l k' x' a' n' s' r' f' l' g c bx _ HR.out HC.out hb v HV.out).mono ?_); rintro E w1 ⟨⟨i, rfl, hi⟩, hu1⟩; have HI := Lib.hid hi; clear hi))
  go_ret
  exact ⟨by rw [← HI.out]; rfl, by (repeat' (first | (with_reducible exact Up.refl _) | (with_reducible assumption) | (with_reducible refine Up.alloc ?_ _) | (with_reducible refine Up.drew ?_) | (with_reducible refine Up.drewN ?_ _) | (with_reducible refine Up.setCell ?_ ?_ _) | (with_reducible refine Up.call ?_ (by with_reducible assumption)) | go_size))⟩

theorem all_truth (k : Int) (x : Bool) (a n : Int) (s : ByteArray) (r f l : Int) (k' : Int) (x' : Bool) (a' n' : Int) (s' : ByteArray) (r' f' l' : Int) (g c : Nat) (w : World) (R : Row w g #[.int .i64 k, .bool x, .int .i64 a, .int .i64 n, .string s, .int .i64 r, .int .i64 f, .int .i64 l, .int .i64 k', .bool x', .int .i64 a', .int .i64 n', .string s', .int .i64 r', .int .i64 f', .int .i64 l']) (v : Bool) (hv : (isT k n && isT k' n') = v) :
    Calls Tryd.prog 45 #[.slice (some ⟨g, 0, none⟩) 2 c, .func (.func 38) #[] #[]] w fun e w' => e = .returned (.bool v) ∧ Up w w' := by
  have HR := Lib.hid R
  have HV := Lib.hid hv
  clear R hv
  go_enter Tryd.func45, Tryd.ntmps45
  go_wp2_with (go_at_call 72; ((with_reducible refine (contains_truth k x a n s r f l k' x' a' n' s' r' f' l' g c w.heap.size _ (HR.out.up (by (repeat' (first | (with_reducible exact Up.refl _) | (with_reducible assumption) | (with_reducible refine Up.alloc ?_ _) | (with_reducible refine Up.drew ?_) | (with_reducible refine Up.drewN ?_ _) | (with_reducible refine Up.setCell ?_ ?_ _) | (with_reducible refine Up.call ?_ (by with_reducible assumption)) | go_size)))) (by simp) (by simp) v HV.out).mono ?_); rintro E w1 ⟨rfl, hu1⟩))
  go_ret
  exact ⟨by cases v <;> rfl, by (repeat' (first | (with_reducible exact Up.refl _) | (with_reducible assumption) | (with_reducible refine Up.alloc ?_ _) | (with_reducible refine Up.drew ?_) | (with_reducible refine Up.drewN ?_ _) | (with_reducible refine Up.setCell ?_ ?_ _) | (with_reducible refine Up.call ?_ (by with_reducible assumption)) | go_size))⟩

theorem all1_int (k : Int) (x : Bool) (a n : Int) (s : ByteArray) (r f l : Int) (bx : Nat) (w : World) (hc : w.cell? ⟨bx, 0, none⟩ = some (.func (.func 40) #[] #[])) (hl : bx < w.heap.size) (v : Bool) (hv : isI k n = v) :
    Calls Tryd.prog 73 #[.agg #[.int .i64 k, .bool x, .int .i64 a, .int .i64 n, .string s, .int .i64 r, .int .i64 f, .int .i64 l], .pointer (some ⟨bx, 0, none⟩)] w fun e w' => e = .returned (.bool (!v)) ∧ Up w w' := by
  have HV := Lib.hid hv
  have hl1 : bx < w.heap.size + 1 := by omega
  clear hv
  go_enter Tryd.func73, Tryd.ntmps73
  go_wp2_with (go_at_call 40; ((with_reducible refine (isInt_calls k x a n s r f l _).mono ?_); rintro E w1 ⟨rfl, hu1⟩; rw [HV.out]))
  go_ret
  exact ⟨rfl, by (repeat' (first | (with_reducible exact Up.refl _) | (with_reducible assumption) | (with_reducible refine Up.alloc ?_ _) | (with_reducible refine Up.drew ?_) | (with_reducible refine Up.drewN ?_ _) | (with_reducible refine Up.setCell ?_ ?_ _) | (with_reducible refine Up.call ?_ (by with_reducible assumption)) | go_size))⟩

set_option maxRecDepth 4000 in
theorem index_int (k : Int) (x : Bool) (a n : Int) (s : ByteArray) (r f l : Int) (k' : Int) (x' : Bool) (a' n' : Int) (s' : ByteArray) (r' f' l' : Int) (g c : Nat) (bx : Nat) (w : World) (R : Row w g #[.int .i64 k, .bool x, .int .i64 a, .int .i64 n, .string s, .int .i64 r, .int .i64 f, .int .i64 l, .int .i64 k', .bool x', .int .i64 a', .int .i64 n', .string s', .int .i64 r', .int .i64 f', .int .i64 l']) (hc : w.cell? ⟨bx, 0, none⟩ = some (.func (.func 40) #[] #[])) (hb : bx < w.heap.size) (v : Bool) (hv : (isI k n && isI k' n') = v) :
    Calls Tryd.prog 82 #[.slice (some ⟨g, 0, none⟩) 2 c, .func (.func 73) #[] #[.pointer (some ⟨bx, 0, none⟩)]] w fun e w' => (∃ i : Int, e = .returned (.int .i64 i) ∧ decide (0 ≤ i) = !v) ∧ Up w w' := by
  have hl := R.lt
  have HR := Lib.hid R
  have c0 := R.cell 0 rfl
  have c1 := R.cell 1 rfl
  have c2 := R.cell 2 rfl
  have c3 := R.cell 3 rfl
  have c4 := R.cell 4 rfl
  have c5 := R.cell 5 rfl
  have c6 := R.cell 6 rfl
  have c7 := R.cell 7 rfl
  have c8 := R.cell 8 rfl
  have c9 := R.cell 9 rfl
  have c10 := R.cell 10 rfl
  have c11 := R.cell 11 rfl
  have c12 := R.cell 12 rfl
  have c13 := R.cell 13 rfl
  have c14 := R.cell 14 rfl
  have c15 := R.cell 15 rfl
  obtain ⟨v1, h1⟩ : ∃ v1, isI k n = v1 := ⟨_, rfl⟩
  obtain ⟨v2, h2⟩ : ∃ v2, isI k' n' = v2 := ⟨_, rfl⟩
  have H1 := Lib.hid h1
  have H2 := Lib.hid h2
  have HV := Lib.hid (show (v1 && v2) = v by rw [← h1, ← h2]; exact hv)
  clear h1 h2 hv R
  cases v1
  · have HV := Lib.hid (show false = v from HV.out)
    go_enter Tryd.func82, Tryd.ntmps82
    go_wp2
    refine wp_loop_rounds 3 ?_
    rw [rounds_succ]
    go_wp2_with (go_at_call 73; ((with_reducible refine (all1_int k x a n s r f l bx _ hc hb false H1.out).mono ?_); rintro E w1 ⟨rfl, hu1⟩))
    go_ret
    exact ⟨⟨_, rfl, by rw [← HV.out]; rfl⟩, by (repeat' (first | (with_reducible exact Up.refl _) | (with_reducible assumption) | (with_reducible refine Up.alloc ?_ _) | (with_reducible refine Up.drew ?_) | (with_reducible refine Up.drewN ?_ _) | (with_reducible refine Up.setCell ?_ ?_ _) | (with_reducible refine Up.call ?_ (by with_reducible assumption)) | go_size))⟩
  · cases v2
    · have HV := Lib.hid (show false = v from HV.out)
      go_enter Tryd.func82, Tryd.ntmps82
      go_wp2
      refine wp_loop_rounds 3 ?_
      rw [rounds_succ]
      go_wp2_with (go_at_call 73; ((with_reducible refine (all1_int k x a n s r f l bx _ hc hb true H1.out).mono ?_); rintro E w1 ⟨rfl, hu1⟩; have hbx := (hu1.cells.1 bx 0 hb).trans hc; have hb1 : bx < w1.heap.size := Nat.lt_of_lt_of_le hb hu1.size; have d8 := (hu1.cells.1 g 8 hl).trans c8; have d9 := (hu1.cells.1 g 9 hl).trans c9; have d10 := (hu1.cells.1 g 10 hl).trans c10; have d11 := (hu1.cells.1 g 11 hl).trans c11; have d12 := (hu1.cells.1 g 12 hl).trans c12; have d13 := (hu1.cells.1 g 13 hl).trans c13; have d14 := (hu1.cells.1 g 14 hl).trans c14; have d15 := (hu1.cells.1 g 15 hl).trans c15; clear hc))
      rw [rounds_succ]
      go_wp2_with (go_at_call 73; ((with_reducible refine (all1_int k' x' a' n' s' r' f' l' bx _ hbx hb1 false H2.out).mono ?_); rintro E w2 ⟨rfl, hu2⟩))
      go_ret
      exact ⟨⟨_, rfl, by rw [← HV.out]; rfl⟩, by (repeat' (first | (with_reducible exact Up.refl _) | (with_reducible assumption) | (with_reducible refine Up.alloc ?_ _) | (with_reducible refine Up.drew ?_) | (with_reducible refine Up.drewN ?_ _) | (with_reducible refine Up.setCell ?_ ?_ _) | (with_reducible refine Up.call ?_ (by with_reducible assumption)) | go_size))⟩
    · have HV := Lib.hid (show true = v from HV.out)
      go_enter Tryd.func82, Tryd.ntmps82
      go_wp2
      refine wp_loop_rounds 3 ?_
      rw [rounds_succ]
      go_wp2_with (go_at_call 73; ((with_reducible refine (all1_int k x a n s r f l bx _ hc hb true H1.out).mono ?_); rintro E w1 ⟨rfl, hu1⟩; have hbx := (hu1.cells.1 bx 0 hb).trans hc; have hb1 : bx < w1.heap.size := Nat.lt_of_lt_of_le hb hu1.size; have d8 := (hu1.cells.1 g 8 hl).trans c8; have d9 := (hu1.cells.1 g 9 hl).trans c9; have d10 := (hu1.cells.1 g 10 hl).trans c10; have d11 := (hu1.cells.1 g 11 hl).trans c11; have d12 := (hu1.cells.1 g 12 hl).trans c12; have d13 := (hu1.cells.1 g 13 hl).trans c13; have d14 := (hu1.cells.1 g 14 hl).trans c14; have d15 := (hu1.cells.1 g 15 hl).trans c15; clear hc))
      rw [rounds_succ]
      go_wp2_with (go_at_call 73; ((with_reducible refine (all1_int k' x' a' n' s' r' f' l' bx _ hbx hb1 true H2.out).mono ?_); rintro E w2 ⟨rfl, hu2⟩))
      rw [rounds_succ]
      go_wp2
      go_ret
      exact ⟨⟨_, rfl, by rw [← HV.out]; rfl⟩, by (repeat' (first | (with_reducible exact Up.refl _) | (with_reducible assumption) | (with_reducible refine Up.alloc ?_ _) | (with_reducible refine Up.drew ?_) | (with_reducible refine Up.drewN ?_ _) | (with_reducible refine Up.setCell ?_ ?_ _) | (with_reducible refine Up.call ?_ (by with_reducible assumption)) | go_size))⟩

theorem contains_int (k : Int) (x : Bool) (a n : Int) (s : ByteArray) (r f l : Int) (k' : Int) (x' : Bool) (a' n' : Int) (s' : ByteArray) (r' f' l' : Int) (g c : Nat) (bx : Nat) (w : World) (R : Row w g #[.int .i64 k, .bool x, .int .i64 a, .int .i64 n, .string s, .int .i64 r, .int .i64 f, .int .i64 l, .int .i64 k', .bool x', .int .i64 a', .int .i64 n', .string s', .int .i64 r', .int .i64 f', .int .i64 l']) (hc : w.cell? ⟨bx, 0, none⟩ = some (.func (.func 40) #[] #[])) (hb : bx < w.heap.size) (v : Bool) (hv : (isI k n && isI k' n') = v) :
    Calls Tryd.prog 72 #[.slice (some ⟨g, 0, none⟩) 2 c, .func (.func 73) #[] #[.pointer (some ⟨bx, 0, none⟩)]] w fun e w' => e = .returned (.bool (!v)) ∧ Up w w' := by
  have HR := Lib.hid R
  have HC := Lib.hid hc
  have HV := Lib.hid hv
  clear R hc hv
  go_enter Tryd.func72, Tryd.ntmps72
  go_wp2_with (go_at_call 82; ((with_reducible refine (index_int k x a n s r f l k' x' a' n' s' r' f' l' g c bx _ HR.out HC.out hb v HV.out).mono ?_); rintro E w1 ⟨⟨i, rfl, hi⟩, hu1⟩; have HI := Lib.hid hi; clear hi))
  go_ret
  exact ⟨by rw [← HI.out]; rfl, by (repeat' (first | (with_reducible exact Up.refl _) | (with_reducible assumption) | (with_reducible refine Up.alloc ?_ _) | (with_reducible refine Up.drew ?_) | (with_reducible refine Up.drewN ?_ _) | (with_reducible refine Up.setCell ?_ ?_ _) | (with_reducible refine Up.call ?_ (by with_reducible assumption)) | go_size))⟩

theorem all_int (k : Int) (x : Bool) (a n : Int) (s : ByteArray) (r f l : Int) (k' : Int) (x' : Bool) (a' n' : Int) (s' : ByteArray) (r' f' l' : Int) (g c : Nat) (w : World) (R : Row w g #[.int .i64 k, .bool x, .int .i64 a, .int .i64 n, .string s, .int .i64 r, .int .i64 f, .int .i64 l, .int .i64 k', .bool x', .int .i64 a', .int .i64 n', .string s', .int .i64 r', .int .i64 f', .int .i64 l']) (v : Bool) (hv : (isI k n && isI k' n') = v) :
    Calls Tryd.prog 45 #[.slice (some ⟨g, 0, none⟩) 2 c, .func (.func 40) #[] #[]] w fun e w' => e = .returned (.bool v) ∧ Up w w' := by
  have HR := Lib.hid R
  have HV := Lib.hid hv
  clear R hv
  go_enter Tryd.func45, Tryd.ntmps45
  go_wp2_with (go_at_call 72; ((with_reducible refine (contains_int k x a n s r f l k' x' a' n' s' r' f' l' g c w.heap.size _ (HR.out.up (by (repeat' (first | (with_reducible exact Up.refl _) | (with_reducible assumption) | (with_reducible refine Up.alloc ?_ _) | (with_reducible refine Up.drew ?_) | (with_reducible refine Up.drewN ?_ _) | (with_reducible refine Up.setCell ?_ ?_ _) | (with_reducible refine Up.call ?_ (by with_reducible assumption)) | go_size)))) (by simp) (by simp) v HV.out).mono ?_); rintro E w1 ⟨rfl, hu1⟩))
  go_ret
  exact ⟨by cases v <;> rfl, by (repeat' (first | (with_reducible exact Up.refl _) | (with_reducible assumption) | (with_reducible refine Up.alloc ?_ _) | (with_reducible refine Up.drew ?_) | (with_reducible refine Up.drewN ?_ _) | (with_reducible refine Up.setCell ?_ ?_ _) | (with_reducible refine Up.call ?_ (by with_reducible assumption)) | go_size))⟩

theorem all1_number (k : Int) (x : Bool) (a n : Int) (s : ByteArray) (r f l : Int) (bx : Nat) (w : World) (hc : w.cell? ⟨bx, 0, none⟩ = some (.func (.func 35) #[] #[])) (hl : bx < w.heap.size) (v : Bool) (hv : numb k n = v) :
    Calls Tryd.prog 73 #[.agg #[.int .i64 k, .bool x, .int .i64 a, .int .i64 n, .string s, .int .i64 r, .int .i64 f, .int .i64 l], .pointer (some ⟨bx, 0, none⟩)] w fun e w' => e = .returned (.bool (!v)) ∧ Up w w' := by
  have HV := Lib.hid hv
  have hl1 : bx < w.heap.size + 1 := by omega
  clear hv
  go_enter Tryd.func73, Tryd.ntmps73
  go_wp2_with (go_at_call 35; ((with_reducible refine (number_calls k x a n s r f l _).mono ?_); rintro E w1 ⟨rfl, hu1⟩; rw [HV.out]))
  go_ret
  exact ⟨rfl, by (repeat' (first | (with_reducible exact Up.refl _) | (with_reducible assumption) | (with_reducible refine Up.alloc ?_ _) | (with_reducible refine Up.drew ?_) | (with_reducible refine Up.drewN ?_ _) | (with_reducible refine Up.setCell ?_ ?_ _) | (with_reducible refine Up.call ?_ (by with_reducible assumption)) | go_size))⟩

set_option maxRecDepth 4000 in
theorem index_number (k : Int) (x : Bool) (a n : Int) (s : ByteArray) (r f l : Int) (k' : Int) (x' : Bool) (a' n' : Int) (s' : ByteArray) (r' f' l' : Int) (g c : Nat) (bx : Nat) (w : World) (R : Row w g #[.int .i64 k, .bool x, .int .i64 a, .int .i64 n, .string s, .int .i64 r, .int .i64 f, .int .i64 l, .int .i64 k', .bool x', .int .i64 a', .int .i64 n', .string s', .int .i64 r', .int .i64 f', .int .i64 l']) (hc : w.cell? ⟨bx, 0, none⟩ = some (.func (.func 35) #[] #[])) (hb : bx < w.heap.size) (v : Bool) (hv : (numb k n && numb k' n') = v) :
    Calls Tryd.prog 82 #[.slice (some ⟨g, 0, none⟩) 2 c, .func (.func 73) #[] #[.pointer (some ⟨bx, 0, none⟩)]] w fun e w' => (∃ i : Int, e = .returned (.int .i64 i) ∧ decide (0 ≤ i) = !v) ∧ Up w w' := by
  have hl := R.lt
  have HR := Lib.hid R
  have c0 := R.cell 0 rfl
  have c1 := R.cell 1 rfl
  have c2 := R.cell 2 rfl
  have c3 := R.cell 3 rfl
  have c4 := R.cell 4 rfl
  have c5 := R.cell 5 rfl
  have c6 := R.cell 6 rfl
  have c7 := R.cell 7 rfl
  have c8 := R.cell 8 rfl
  have c9 := R.cell 9 rfl
  have c10 := R.cell 10 rfl
  have c11 := R.cell 11 rfl
  have c12 := R.cell 12 rfl
  have c13 := R.cell 13 rfl
  have c14 := R.cell 14 rfl
  have c15 := R.cell 15 rfl
  obtain ⟨v1, h1⟩ : ∃ v1, numb k n = v1 := ⟨_, rfl⟩
  obtain ⟨v2, h2⟩ : ∃ v2, numb k' n' = v2 := ⟨_, rfl⟩
  have H1 := Lib.hid h1
  have H2 := Lib.hid h2
  have HV := Lib.hid (show (v1 && v2) = v by rw [← h1, ← h2]; exact hv)
  clear h1 h2 hv R
  cases v1
  · have HV := Lib.hid (show false = v from HV.out)
    go_enter Tryd.func82, Tryd.ntmps82
    go_wp2
    refine wp_loop_rounds 3 ?_
    rw [rounds_succ]
    go_wp2_with (go_at_call 73; ((with_reducible refine (all1_number k x a n s r f l bx _ hc hb false H1.out).mono ?_); rintro E w1 ⟨rfl, hu1⟩))
    go_ret
    exact ⟨⟨_, rfl, by rw [← HV.out]; rfl⟩, by (repeat' (first | (with_reducible exact Up.refl _) | (with_reducible assumption) | (with_reducible refine Up.alloc ?_ _) | (with_reducible refine Up.drew ?_) | (with_reducible refine Up.drewN ?_ _) | (with_reducible refine Up.setCell ?_ ?_ _) | (with_reducible refine Up.call ?_ (by with_reducible assumption)) | go_size))⟩
  · cases v2
    · have HV := Lib.hid (show false = v from HV.out)
      go_enter Tryd.func82, Tryd.ntmps82
      go_wp2
      refine wp_loop_rounds 3 ?_
      rw [rounds_succ]
      go_wp2_with (go_at_call 73; ((with_reducible refine (all1_number k x a n s r f l bx _ hc hb true H1.out).mono ?_); rintro E w1 ⟨rfl, hu1⟩; have hbx := (hu1.cells.1 bx 0 hb).trans hc; have hb1 : bx < w1.heap.size := Nat.lt_of_lt_of_le hb hu1.size; have d8 := (hu1.cells.1 g 8 hl).trans c8; have d9 := (hu1.cells.1 g 9 hl).trans c9; have d10 := (hu1.cells.1 g 10 hl).trans c10; have d11 := (hu1.cells.1 g 11 hl).trans c11; have d12 := (hu1.cells.1 g 12 hl).trans c12; have d13 := (hu1.cells.1 g 13 hl).trans c13; have d14 := (hu1.cells.1 g 14 hl).trans c14; have d15 := (hu1.cells.1 g 15 hl).trans c15; clear hc))
      rw [rounds_succ]
      go_wp2_with (go_at_call 73; ((with_reducible refine (all1_number k' x' a' n' s' r' f' l' bx _ hbx hb1 false H2.out).mono ?_); rintro E w2 ⟨rfl, hu2⟩))
      go_ret
      exact ⟨⟨_, rfl, by rw [← HV.out]; rfl⟩, by (repeat' (first | (with_reducible exact Up.refl _) | (with_reducible assumption) | (with_reducible refine Up.alloc ?_ _) | (with_reducible refine Up.drew ?_) | (with_reducible refine Up.drewN ?_ _) | (with_reducible refine Up.setCell ?_ ?_ _) | (with_reducible refine Up.call ?_ (by with_reducible assumption)) | go_size))⟩
    · have HV := Lib.hid (show true = v from HV.out)
      go_enter Tryd.func82, Tryd.ntmps82
      go_wp2
      refine wp_loop_rounds 3 ?_
      rw [rounds_succ]
      go_wp2_with (go_at_call 73; ((with_reducible refine (all1_number k x a n s r f l bx _ hc hb true H1.out).mono ?_); rintro E w1 ⟨rfl, hu1⟩; have hbx := (hu1.cells.1 bx 0 hb).trans hc; have hb1 : bx < w1.heap.size := Nat.lt_of_lt_of_le hb hu1.size; have d8 := (hu1.cells.1 g 8 hl).trans c8; have d9 := (hu1.cells.1 g 9 hl).trans c9; have d10 := (hu1.cells.1 g 10 hl).trans c10; have d11 := (hu1.cells.1 g 11 hl).trans c11; have d12 := (hu1.cells.1 g 12 hl).trans c12; have d13 := (hu1.cells.1 g 13 hl).trans c13; have d14 := (hu1.cells.1 g 14 hl).trans c14; have d15 := (hu1.cells.1 g 15 hl).trans c15; clear hc))
      rw [rounds_succ]
      go_wp2_with (go_at_call 73; ((with_reducible refine (all1_number k' x' a' n' s' r' f' l' bx _ hbx hb1 true H2.out).mono ?_); rintro E w2 ⟨rfl, hu2⟩))
      rw [rounds_succ]
      go_wp2
      go_ret
      exact ⟨⟨_, rfl, by rw [← HV.out]; rfl⟩, by (repeat' (first | (with_reducible exact Up.refl _) | (with_reducible assumption) | (with_reducible refine Up.alloc ?_ _) | (with_reducible refine Up.drew ?_) | (with_reducible refine Up.drewN ?_ _) | (with_reducible refine Up.setCell ?_ ?_ _) | (with_reducible refine Up.call ?_ (by with_reducible assumption)) | go_size))⟩

theorem contains_number (k : Int) (x : Bool) (a n : Int) (s : ByteArray) (r f l : Int) (k' : Int) (x' : Bool) (a' n' : Int) (s' : ByteArray) (r' f' l' : Int) (g c : Nat) (bx : Nat) (w : World) (R : Row w g #[.int .i64 k, .bool x, .int .i64 a, .int .i64 n, .string s, .int .i64 r, .int .i64 f, .int .i64 l, .int .i64 k', .bool x', .int .i64 a', .int .i64 n', .string s', .int .i64 r', .int .i64 f', .int .i64 l']) (hc : w.cell? ⟨bx, 0, none⟩ = some (.func (.func 35) #[] #[])) (hb : bx < w.heap.size) (v : Bool) (hv : (numb k n && numb k' n') = v) :
    Calls Tryd.prog 72 #[.slice (some ⟨g, 0, none⟩) 2 c, .func (.func 73) #[] #[.pointer (some ⟨bx, 0, none⟩)]] w fun e w' => e = .returned (.bool (!v)) ∧ Up w w' := by
  have HR := Lib.hid R
  have HC := Lib.hid hc
  have HV := Lib.hid hv
  clear R hc hv
  go_enter Tryd.func72, Tryd.ntmps72
  go_wp2_with (go_at_call 82; ((with_reducible refine (index_number k x a n s r f l k' x' a' n' s' r' f' l' g c bx _ HR.out HC.out hb v HV.out).mono ?_); rintro E w1 ⟨⟨i, rfl, hi⟩, hu1⟩; have HI := Lib.hid hi; clear hi))
  go_ret
  exact ⟨by rw [← HI.out]; rfl, by (repeat' (first | (with_reducible exact Up.refl _) | (with_reducible assumption) | (with_reducible refine Up.alloc ?_ _) | (with_reducible refine Up.drew ?_) | (with_reducible refine Up.drewN ?_ _) | (with_reducible refine Up.setCell ?_ ?_ _) | (with_reducible refine Up.call ?_ (by with_reducible assumption)) | go_size))⟩

theorem all_number (k : Int) (x : Bool) (a n : Int) (s : ByteArray) (r f l : Int) (k' : Int) (x' : Bool) (a' n' : Int) (s' : ByteArray) (r' f' l' : Int) (g c : Nat) (w : World) (R : Row w g #[.int .i64 k, .bool x, .int .i64 a, .int .i64 n, .string s, .int .i64 r, .int .i64 f, .int .i64 l, .int .i64 k', .bool x', .int .i64 a', .int .i64 n', .string s', .int .i64 r', .int .i64 f', .int .i64 l']) (v : Bool) (hv : (numb k n && numb k' n') = v) :
    Calls Tryd.prog 45 #[.slice (some ⟨g, 0, none⟩) 2 c, .func (.func 35) #[] #[]] w fun e w' => e = .returned (.bool v) ∧ Up w w' := by
  have HR := Lib.hid R
  have HV := Lib.hid hv
  clear R hv
  go_enter Tryd.func45, Tryd.ntmps45
  go_wp2_with (go_at_call 72; ((with_reducible refine (contains_number k x a n s r f l k' x' a' n' s' r' f' l' g c w.heap.size _ (HR.out.up (by (repeat' (first | (with_reducible exact Up.refl _) | (with_reducible assumption) | (with_reducible refine Up.alloc ?_ _) | (with_reducible refine Up.drew ?_) | (with_reducible refine Up.drewN ?_ _) | (with_reducible refine Up.setCell ?_ ?_ _) | (with_reducible refine Up.call ?_ (by with_reducible assumption)) | go_size)))) (by simp) (by simp) v HV.out).mono ?_); rintro E w1 ⟨rfl, hu1⟩))
  go_ret
  exact ⟨by cases v <;> rfl, by (repeat' (first | (with_reducible exact Up.refl _) | (with_reducible assumption) | (with_reducible refine Up.alloc ?_ _) | (with_reducible refine Up.drew ?_) | (with_reducible refine Up.drewN ?_ _) | (with_reducible refine Up.setCell ?_ ?_ _) | (with_reducible refine Up.call ?_ (by with_reducible assumption)) | go_size))⟩

end Go.Proofs.YtakickodehebmaaDoor.Ar
