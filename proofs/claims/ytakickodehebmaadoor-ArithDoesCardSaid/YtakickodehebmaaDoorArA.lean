/- What the lower functions of package arith return. -/
import Derived.Test.YtakickodehebmaaDoorRows
import Derived.Test.YtakickodehebmaaDoorBase
import Derived.Test.YtakickodehebmaaDoorFix2
import Derived.Test.YtakickodehebmaaDoorArM
import Derived.Test.YtakickodehebmaaDoorChg
import Derived.WalkKit
import Derived.Handy
namespace Go.Proofs.YtakickodehebmaaDoor.Ar
open Go.ChangeShapes Go.WideShapes Go.ChangeAt Go.RowKit
open Go.Proofs.YtakickodehebmaaDoor.FixM (fits within)
open Go.Proofs.YtakickodehebmaaDoor.ArM
set_option linter.unusedVariables false
set_option linter.unusedSimpArgs false

/-- the results, where the first is an object in a block that the call has made -/
theorem results_oe {fn : Func} {i j : Nat} (h : fn.results = #[.cell i 38, .tmp j]) (tmps : Array Value) (w : World) (b : Nat) (k : Int) (x : Bool) (a n : Int) (s : ByteArray) (r f l : Int)
    (hr : Row w b #[.int .i64 k, .bool x, .int .i64 a, .int .i64 n, .string s, .int .i64 r, .int .i64 f, .int .i64 l]) (e : tmps.getD i undef = .pointer (some ⟨b, 0, none⟩)) :
    (results fn tmps).run Tryd.prog w = .ok (.tuple #[.agg #[.int .i64 k, .bool x, .int .i64 a, .int .i64 n, .string s, .int .i64 r, .int .i64 f, .int .i64 l], tmps.getD j undef]) w := by
  have c0 := hr.cell 0 rfl
  have c1 := hr.cell 1 rfl
  have c2 := hr.cell 2 rfl
  have c3 := hr.cell 3 rfl
  have c4 := hr.cell 4 rfl
  have c5 := hr.cell 5 rfl
  have c6 := hr.cell 6 rfl
  have c7 := hr.cell 7 rfl
  rw [Array.getD_eq_getD_getElem?] at e
  simp [results, h, go_sem, e, c0, c1, c2, c3, c4, c5, c6, c7]
theorem cast {w : World} {b : Nat} {cs cs2 : Array Value} (h : Row w b cs) (e : cs = cs2) : Row w b cs2 := e ▸ h

theorem small_calls (n : Int) (w : World) :
    Calls Tryd.prog 61 #[.int .i64 n] w fun e w' => e = .returned (.bool (fits n)) ∧ w = w' := by
  by_cases h1 : -2147483648 ≤ n
  · by_cases h2 : n ≤ 2147483647
    · have HH := Lib.hid (FixM.fits_true h1 h2)
      go_enter Tryd.func61, Tryd.ntmps61
      go_wp2
      go_ret
      exact ⟨retb (by rw [HH.out]), rfl⟩
    · have HH := Lib.hid (show fits n = false from FixM.fits_false.2 (by omega))
      go_enter Tryd.func61, Tryd.ntmps61
      go_wp2
      go_ret
      exact ⟨retb (by rw [HH.out]), rfl⟩
  · have HH := Lib.hid (show fits n = false from FixM.fits_false.2 (by omega))
    go_enter Tryd.func61, Tryd.ntmps61
    go_wp2
    go_ret
    exact ⟨retb (by rw [HH.out]), rfl⟩

theorem whole_calls (n : Int) (w : World) :
    Calls Tryd.prog 41 #[.int .i64 n] w fun e w' => e = .returned (.agg #[.int .i64 1, .bool false, .int .i64 0, .int .i64 n, .string ⟨#[]⟩, .int .i64 0, .int .i64 0, .int .i64 0]) ∧ Up w w' := by
  go_enter Tryd.func41, Tryd.ntmps41
  go_wp2
  go_returns
  exact ⟨rfl, by (repeat' (first | (with_reducible exact Up.refl _) | (with_reducible assumption) | (with_reducible refine Up.alloc ?_ _) | (with_reducible refine Up.drew ?_) | (with_reducible refine Up.drewN ?_ _) | (with_reducible refine Up.setCell ?_ ?_ _) | (with_reducible refine Up.call ?_ (by with_reducible assumption)) | go_size))⟩
theorem real_calls (n : Int) (w : World) :
    Calls Tryd.prog 65 #[.int .i64 n] w fun e w' => e = .returned (.agg #[.int .i64 2, .bool false, .int .i64 0, .int .i64 n, .string ⟨#[]⟩, .int .i64 0, .int .i64 0, .int .i64 0]) ∧ Up w w' := by
  go_enter Tryd.func65, Tryd.ntmps65
  go_wp2
  go_returns
  exact ⟨rfl, by (repeat' (first | (with_reducible exact Up.refl _) | (with_reducible assumption) | (with_reducible refine Up.alloc ?_ _) | (with_reducible refine Up.drew ?_) | (with_reducible refine Up.drewN ?_ _) | (with_reducible refine Up.setCell ?_ ?_ _) | (with_reducible refine Up.call ?_ (by with_reducible assumption)) | go_size))⟩
theorem truth_calls (b : Bool) (w : World) :
    Calls Tryd.prog 39 #[.bool b] w fun e w' => e = .returned (.agg #[.int .i64 3, .bool false, .int .i64 0, .int .i64 (truthN b), .string ⟨#[]⟩, .int .i64 0, .int .i64 0, .int .i64 0]) ∧ Up w w' := by
  cases b
  · rw [show truthN false = 0 from rfl]
    go_enter Tryd.func39, Tryd.ntmps39
    go_wp2
    go_returns
    exact ⟨rfl, by (repeat' (first | (with_reducible exact Up.refl _) | (with_reducible assumption) | (with_reducible refine Up.alloc ?_ _) | (with_reducible refine Up.drew ?_) | (with_reducible refine Up.drewN ?_ _) | (with_reducible refine Up.setCell ?_ ?_ _) | (with_reducible refine Up.call ?_ (by with_reducible assumption)) | go_size))⟩
  · rw [show truthN true = 1 from rfl]
    go_enter Tryd.func39, Tryd.ntmps39
    go_wp2
    go_returns
    exact ⟨rfl, by (repeat' (first | (with_reducible exact Up.refl _) | (with_reducible assumption) | (with_reducible refine Up.alloc ?_ _) | (with_reducible refine Up.drew ?_) | (with_reducible refine Up.drewN ?_ _) | (with_reducible refine Up.setCell ?_ ?_ _) | (with_reducible refine Up.call ?_ (by with_reducible assumption)) | go_size))⟩

theorem number_calls (k : Int) (x : Bool) (a n : Int) (s : ByteArray) (r f l : Int) (w : World) :
    Calls Tryd.prog 35 #[.agg #[.int .i64 k, .bool x, .int .i64 a, .int .i64 n, .string s, .int .i64 r, .int .i64 f, .int .i64 l]] w fun e w' => e = .returned (.bool (numb k n)) ∧ Up w w' := by
  by_cases h1 : k = 1
  · subst h1
    have H := Lib.hid (show numb 1 n = fits n by simp [numb])
    obtain ⟨b, hb⟩ : ∃ b, fits n = b := ⟨_, rfl⟩
    have HB := Lib.hid hb
    clear hb
    cases b
    all_goals
      go_enter Tryd.func35, Tryd.ntmps35
      go_wp2_with (go_at_call 61; ((with_reducible refine (small_calls _ _).mono ?_); rintro E w1 ⟨rfl, rfl⟩; rw [HB.out]))
      go_ret
      exact ⟨by rw [H.out, HB.out]; rfl, by (repeat' (first | (with_reducible exact Up.refl _) | (with_reducible assumption) | (with_reducible refine Up.alloc ?_ _) | (with_reducible refine Up.drew ?_) | (with_reducible refine Up.drewN ?_ _) | (with_reducible refine Up.setCell ?_ ?_ _) | (with_reducible refine Up.call ?_ (by with_reducible assumption)) | go_size))⟩
  · have d1 : (k == 1) = false := by simpa using h1
    by_cases h2 : k = 2
    · subst h2
      have H := Lib.hid (show numb 2 n = fits n by simp [numb])
      clear h1
      go_enter Tryd.func35, Tryd.ntmps35
      go_wp2_with (go_at_call 62; ((with_reducible refine (Fix.fits_calls _ _).mono ?_); rintro E w1 ⟨rfl, rfl⟩))
      go_ret
      exact ⟨by rw [H.out]; rfl, by (repeat' (first | (with_reducible exact Up.refl _) | (with_reducible assumption) | (with_reducible refine Up.alloc ?_ _) | (with_reducible refine Up.drew ?_) | (with_reducible refine Up.drewN ?_ _) | (with_reducible refine Up.setCell ?_ ?_ _) | (with_reducible refine Up.call ?_ (by with_reducible assumption)) | go_size))⟩
    · have d2 : (k == 2) = false := by simpa using h2
      have H := Lib.hid (show numb k n = false by simp [numb, h1, h2])
      clear h1 h2
      go_enter Tryd.func35, Tryd.ntmps35
      go_wp2
      go_ret
      exact ⟨by rw [H.out]; rfl, by (repeat' (first | (with_reducible exact Up.refl _) | (with_reducible assumption) | (with_reducible refine Up.alloc ?_ _) | (with_reducible refine Up.drew ?_) | (with_reducible refine Up.drewN ?_ _) | (with_reducible refine Up.setCell ?_ ?_ _) | (with_reducible refine Up.call ?_ (by with_reducible assumption)) | go_size))⟩

theorem isInt_calls (k : Int) (x : Bool) (a n : Int) (s : ByteArray) (r f l : Int) (w : World) :
    Calls Tryd.prog 40 #[.agg #[.int .i64 k, .bool x, .int .i64 a, .int .i64 n, .string s, .int .i64 r, .int .i64 f, .int .i64 l]] w fun e w' => e = .returned (.bool (isI k n)) ∧ Up w w' := by
  by_cases h1 : k = 1
  · subst h1
    have H := Lib.hid (show numb 1 n = isI 1 n by simp [numb, isI])
    go_enter Tryd.func40, Tryd.ntmps40
    go_wp2_with (go_at_call 35; ((with_reducible refine (number_calls 1 x a n s r f l _).mono ?_); rintro E w1 ⟨rfl, hu1⟩))
    go_ret
    exact ⟨by rw [H.out]; rfl, by (repeat' (first | (with_reducible exact Up.refl _) | (with_reducible assumption) | (with_reducible refine Up.alloc ?_ _) | (with_reducible refine Up.drew ?_) | (with_reducible refine Up.drewN ?_ _) | (with_reducible refine Up.setCell ?_ ?_ _) | (with_reducible refine Up.call ?_ (by with_reducible assumption)) | go_size))⟩
  · have d1 : (k == 1) = false := by simpa using h1
    have H := Lib.hid (show isI k n = false by simp [isI, h1])
    clear h1
    go_enter Tryd.func40, Tryd.ntmps40
    go_wp2
    go_ret
    exact ⟨by rw [H.out]; rfl, by (repeat' (first | (with_reducible exact Up.refl _) | (with_reducible assumption) | (with_reducible refine Up.alloc ?_ _) | (with_reducible refine Up.drew ?_) | (with_reducible refine Up.drewN ?_ _) | (with_reducible refine Up.setCell ?_ ?_ _) | (with_reducible refine Up.call ?_ (by with_reducible assumption)) | go_size))⟩

theorem isTruth_calls (k : Int) (x : Bool) (a n : Int) (s : ByteArray) (r f l : Int) (w : World) :
    Calls Tryd.prog 38 #[.agg #[.int .i64 k, .bool x, .int .i64 a, .int .i64 n, .string s, .int .i64 r, .int .i64 f, .int .i64 l]] w fun e w' => e = .returned (.bool (isT k n)) ∧ Up w w' := by
  by_cases h1 : k = 3
  · subst h1
    by_cases h2 : n = 0
    · subst h2
      go_enter Tryd.func38, Tryd.ntmps38
      go_wp2
      go_ret
      exact ⟨rfl, by (repeat' (first | (with_reducible exact Up.refl _) | (with_reducible assumption) | (with_reducible refine Up.alloc ?_ _) | (with_reducible refine Up.drew ?_) | (with_reducible refine Up.drewN ?_ _) | (with_reducible refine Up.setCell ?_ ?_ _) | (with_reducible refine Up.call ?_ (by with_reducible assumption)) | go_size))⟩
    · have d2 : (n == 0) = false := by simpa using h2
      have H := Lib.hid (show isT 3 n = (n == 1) by simp [isT, h2])
      go_enter Tryd.func38, Tryd.ntmps38
      go_wp2
      go_ret
      exact ⟨by rw [H.out]; rfl, by (repeat' (first | (with_reducible exact Up.refl _) | (with_reducible assumption) | (with_reducible refine Up.alloc ?_ _) | (with_reducible refine Up.drew ?_) | (with_reducible refine Up.drewN ?_ _) | (with_reducible refine Up.setCell ?_ ?_ _) | (with_reducible refine Up.call ?_ (by with_reducible assumption)) | go_size))⟩
  · have d1 : (k == 3) = false := by simpa using h1
    have H := Lib.hid (show isT k n = false by simp [isT, h1])
    clear h1
    go_enter Tryd.func38, Tryd.ntmps38
    go_wp2
    go_ret
    exact ⟨by rw [H.out]; rfl, by (repeat' (first | (with_reducible exact Up.refl _) | (with_reducible assumption) | (with_reducible refine Up.alloc ?_ _) | (with_reducible refine Up.drew ?_) | (with_reducible refine Up.drewN ?_ _) | (with_reducible refine Up.setCell ?_ ?_ _) | (with_reducible refine Up.call ?_ (by with_reducible assumption)) | go_size))⟩

theorem asReal_calls (k : Int) (x : Bool) (a n : Int) (s : ByteArray) (r f l : Int) (w : World) (m e : Int) (hm : asReal k n = (m, e)) :
    Calls Tryd.prog 63 #[.agg #[.int .i64 k, .bool x, .int .i64 a, .int .i64 n, .string s, .int .i64 r, .int .i64 f, .int .i64 l]] w fun E w' => E = .returned (.tuple #[.int .i64 m, .int .i64 e]) ∧ Up w w' := by
  by_cases h1 : k = 1
  · subst h1
    have H := Lib.hid (show FixM.fromInt n = (m, e) from hm)
    clear hm
    go_enter Tryd.func63, Tryd.ntmps63
    go_wp2_with (go_at_call 78; ((with_reducible refine (Fix.fromInt_calls _ _).mono ?_); rintro E w1 ⟨rfl, rfl⟩; rw [H.out]))
    go_ret2
    exact ⟨rfl, by (repeat' (first | (with_reducible exact Up.refl _) | (with_reducible assumption) | (with_reducible refine Up.alloc ?_ _) | (with_reducible refine Up.drew ?_) | (with_reducible refine Up.drewN ?_ _) | (with_reducible refine Up.setCell ?_ ?_ _) | (with_reducible refine Up.call ?_ (by with_reducible assumption)) | go_size))⟩
  · have d1 : (k == 1) = false := by simpa using h1
    obtain ⟨rfl, rfl⟩ : n = m ∧ 0 = e := by
      unfold asReal at hm
      rw [if_neg h1] at hm
      injection hm with e1 e2
      exact ⟨e1, e2⟩
    clear hm h1
    go_enter Tryd.func63, Tryd.ntmps63
    go_wp2
    go_ret2
    exact ⟨rfl, by (repeat' (first | (with_reducible exact Up.refl _) | (with_reducible assumption) | (with_reducible refine Up.alloc ?_ _) | (with_reducible refine Up.drew ?_) | (with_reducible refine Up.drewN ?_ _) | (with_reducible refine Up.setCell ?_ ?_ _) | (with_reducible refine Up.call ?_ (by with_reducible assumption)) | go_size))⟩

theorem scaled_calls (k : Int) (x : Bool) (a n : Int) (s : ByteArray) (r f l : Int) (w : World) (h : numb k n = true) :
    Calls Tryd.prog 36 #[.agg #[.int .i64 k, .bool x, .int .i64 a, .int .i64 n, .string s, .int .i64 r, .int .i64 f, .int .i64 l]] w fun E w' => E = .returned (.int .i64 (scaled k n)) ∧ Up w w' := by
  obtain ⟨hk, h2, h3⟩ := numb_fits h
  clear h
  by_cases h1 : k = 1
  · subst h1
    have H := Lib.hid (show scaled 1 n = n * 65536 from rfl)
    clear hk
    go_enter Tryd.func36, Tryd.ntmps36
    go_wp2
    go_ret
    exact ⟨by rw [H.out]; rfl, by (repeat' (first | (with_reducible exact Up.refl _) | (with_reducible assumption) | (with_reducible refine Up.alloc ?_ _) | (with_reducible refine Up.drew ?_) | (with_reducible refine Up.drewN ?_ _) | (with_reducible refine Up.setCell ?_ ?_ _) | (with_reducible refine Up.call ?_ (by with_reducible assumption)) | go_size))⟩
  · have d1 : (k == 1) = false := by simpa using h1
    have H := Lib.hid (show scaled k n = n by unfold scaled; rw [if_neg h1])
    clear h1 hk
    go_enter Tryd.func36, Tryd.ntmps36
    go_wp2
    go_ret
    exact ⟨by rw [H.out]; rfl, by (repeat' (first | (with_reducible exact Up.refl _) | (with_reducible assumption) | (with_reducible refine Up.alloc ?_ _) | (with_reducible refine Up.drew ?_) | (with_reducible refine Up.drewN ?_ _) | (with_reducible refine Up.setCell ?_ ?_ _) | (with_reducible refine Up.call ?_ (by with_reducible assumption)) | go_size))⟩

end Go.Proofs.YtakickodehebmaaDoor.Ar
