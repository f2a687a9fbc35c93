/- Values of the reference; Less and Equal by name: package arith. -/
import Derived.Test.YtakickodehebmaaDoorArE
import Derived.Test.YtakickodehebmaaDoorRfix
namespace Go.Proofs.YtakickodehebmaaDoor.Ar
open Go.ChangeShapes Go.WideShapes Go.ChangeAt Go.RowKit
open Go.Proofs.YtakickodehebmaaDoor.FixM (fits within)
open Go.Proofs.YtakickodehebmaaDoor.ArM
set_option linter.unusedVariables false
set_option linter.unusedSimpArgs false

theorem results_v {fn : Func} {i : Nat} (h : fn.results = #[.cell i 35]) (tmps : Array Value) (w : World) (b : Nat) (cs : Array Value)
    (hr : Row w b cs) (hs : cs.size = 10) (k : Int) (x : Bool) (a n : Int) (s : ByteArray) (hc : cs = #[.int .i64 k, .bool x, .int .i64 a, .int .i64 n, .string s, .pointer none, .pointer none, .pointer none, .int .i64 0, .int .i64 0]) (e : tmps.getD i undef = .pointer (some ⟨b, 0, none⟩)) :
    (results fn tmps).run Tryd.prog w = .ok (.agg #[.int .i64 k, .bool x, .int .i64 a, .int .i64 n, .string s, .pointer none, .pointer none, .pointer none, .int .i64 0, .int .i64 0]) w := by
  subst hc
  have c0 := hr.cell 0 rfl
  have c1 := hr.cell 1 rfl
  have c2 := hr.cell 2 rfl
  have c3 := hr.cell 3 rfl
  have c4 := hr.cell 4 rfl
  have c5 := hr.cell 5 rfl
  have c6 := hr.cell 6 rfl
  have c7 := hr.cell 7 rfl
  have c8 := hr.cell 8 rfl
  have c9 := hr.cell 9 rfl
  rw [Array.getD_eq_getD_getElem?] at e
  simp [results, h, go_sem, e, c0, c1, c2, c3, c4, c5, c6, c7, c8, c9]

theorem val_calls (k : Int) (x : Bool) (a n : Int) (s : ByteArray) (r f l : Int) (w : World) :
    Calls Tryd.prog 11 #[.agg #[.int .i64 k, .bool x, .int .i64 a, .int .i64 n, .string s, .int .i64 r, .int .i64 f, .int .i64 l]] w fun E w' => E = .returned (.agg #[.int .i64 k, .bool x, .int .i64 a, .int .i64 n, .string s, .pointer none, .pointer none, .pointer none, .int .i64 0, .int .i64 0]) ∧ Up w w' := by
  go_enter Tryd.func11, Tryd.ntmps11
  go_wp2
  (try simp only [Exit.inBlock, Exit.then])
  refine bodyPost_ret (results_v rfl _ _ (w.heap.size + 1) (cs := #[.int .i64 k, .bool x, .int .i64 a, .int .i64 n, .string s, .pointer none, .pointer none, .pointer none, .int .i64 0, .int .i64 0]) (by (repeat' (first | (with_reducible assumption) | (with_reducible refine Row.at _ _ ?_; (simp; done)) | (with_reducible refine Row.alloc ?_ _) | (with_reducible refine Row.drew ?_) | (with_reducible refine Row.drewN ?_ _) | (with_reducible refine Row.other ?_ (by first | (simp; done) | (simp; omega) | omega) _) | (with_reducible refine Row.up ?_ (by with_reducible assumption)) | (with_reducible refine Row.chg ?_ (by with_reducible assumption) (by first | (simp; done) | (simp; omega)))))) rfl k x a n s rfl rfl) rfl ?_
  exact ⟨rfl, by (repeat' (first | (with_reducible exact Up.refl _) | (with_reducible assumption) | (with_reducible refine Up.alloc ?_ _) | (with_reducible refine Up.drew ?_) | (with_reducible refine Up.drewN ?_ _) | (with_reducible refine Up.setCell ?_ ?_ _) | (with_reducible refine Up.call ?_ (by with_reducible assumption)) | go_size))⟩

theorem isNumber_calls (k : Int) (x : Bool) (a n : Int) (s : ByteArray) (w : World) :
    Calls Tryd.prog 15 #[.agg #[.int .i64 k, .bool x, .int .i64 a, .int .i64 n, .string s, .pointer none, .pointer none, .pointer none, .int .i64 0, .int .i64 0]] w fun E w' => E = .returned (.bool (numb k n)) ∧ Up w w' := by
  by_cases h1 : k = 1
  · subst h1
    have H := Lib.hid (show numb 1 n = fits n by simp [numb])
    go_enter Tryd.func15, Tryd.ntmps15
    go_wp2_with (go_at_call 37; ((with_reducible refine (Rfix.fits_calls _ _).mono ?_); rintro E w1 ⟨rfl, rfl⟩))
    go_ret
    exact ⟨by rw [H.out]; rfl, by (repeat' (first | (with_reducible exact Up.refl _) | (with_reducible assumption) | (with_reducible refine Up.alloc ?_ _) | (with_reducible refine Up.drew ?_) | (with_reducible refine Up.drewN ?_ _) | (with_reducible refine Up.setCell ?_ ?_ _) | (with_reducible refine Up.call ?_ (by with_reducible assumption)) | go_size))⟩
  · have d1 : (k == 1) = false := by simpa using h1
    by_cases h2 : k = 2
    · subst h2
      have H := Lib.hid (show numb 2 n = fits n by simp [numb])
      clear h1
      go_enter Tryd.func15, Tryd.ntmps15
      go_wp2_with (go_at_call 37; ((with_reducible refine (Rfix.fits_calls _ _).mono ?_); rintro E w1 ⟨rfl, rfl⟩))
      go_ret
      exact ⟨by rw [H.out]; rfl, by (repeat' (first | (with_reducible exact Up.refl _) | (with_reducible assumption) | (with_reducible refine Up.alloc ?_ _) | (with_reducible refine Up.drew ?_) | (with_reducible refine Up.drewN ?_ _) | (with_reducible refine Up.setCell ?_ ?_ _) | (with_reducible refine Up.call ?_ (by with_reducible assumption)) | go_size))⟩
    · have d2 : (k == 2) = false := by simpa using h2
      have H := Lib.hid (show numb k n = false by simp [numb, h1, h2])
      clear h1 h2
      go_enter Tryd.func15, Tryd.ntmps15
      go_wp2
      go_ret
      exact ⟨by rw [H.out]; rfl, by (repeat' (first | (with_reducible exact Up.refl _) | (with_reducible assumption) | (with_reducible refine Up.alloc ?_ _) | (with_reducible refine Up.drew ?_) | (with_reducible refine Up.drewN ?_ _) | (with_reducible refine Up.setCell ?_ ?_ _) | (with_reducible refine Up.call ?_ (by with_reducible assumption)) | go_size))⟩

theorem less_t (k : Int) (x : Bool) (a n : Int) (s : ByteArray) (r f l : Int) (k' : Int) (x' : Bool) (a' n' : Int) (s' : ByteArray) (r' f' l' : Int) (w : World) (b p : Bool) (hb : (numb k n && numb k' n') = b) (hp : (b && decide (scaled k n < scaled k' n')) = p) :
    Calls Tryd.prog 13 #[.agg #[.int .i64 k, .bool x, .int .i64 a, .int .i64 n, .string s, .int .i64 r, .int .i64 f, .int .i64 l], .agg #[.int .i64 k', .bool x', .int .i64 a', .int .i64 n', .string s', .int .i64 r', .int .i64 f', .int .i64 l']] w fun e w' => e = .returned (.tuple #[.bool p, .bool b]) ∧ Up w w' := by
  subst hp
  exact less_calls k x a n s r f l k' x' a' n' s' r' f' l' w b hb

theorem equal_t (k : Int) (x : Bool) (a n : Int) (s : ByteArray) (r f l : Int) (k' : Int) (x' : Bool) (a' n' : Int) (s' : ByteArray) (r' f' l' : Int) (w : World) (b p : Bool) (hb : (numb k n && numb k' n') = b) (hp : (b && decide (scaled k n = scaled k' n')) = p) :
    Calls Tryd.prog 14 #[.agg #[.int .i64 k, .bool x, .int .i64 a, .int .i64 n, .string s, .int .i64 r, .int .i64 f, .int .i64 l], .agg #[.int .i64 k', .bool x', .int .i64 a', .int .i64 n', .string s', .int .i64 r', .int .i64 f', .int .i64 l']] w fun e w' => e = .returned (.tuple #[.bool p, .bool b]) ∧ Up w w' := by
  subst hp
  exact equal_calls k x a n s r f l k' x' a' n' s' r' f' l' w b hb

end Go.Proofs.YtakickodehebmaaDoor.Ar
