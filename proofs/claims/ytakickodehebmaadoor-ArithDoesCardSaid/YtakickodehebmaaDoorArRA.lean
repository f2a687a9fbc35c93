/- The reference's small words: Whole, Real, Truth, one, gives, AsReal, value, isInt, IsTruth, logic. -/
import Derived.Test.YtakickodehebmaaDoorArQ
import Derived.Test.YtakickodehebmaaDoorRfix2
import Derived.Deep.QuietTactic
import Derived.Deep.Cut
namespace Go.Proofs.YtakickodehebmaaDoor.Ar
open Go.ChangeShapes Go.WideShapes Go.ChangeAt Go.RowKit
open Go.Proofs.YtakickodehebmaaDoor.FixM (fits within)
open Go.Proofs.YtakickodehebmaaDoor.ArM
set_option linter.unusedVariables false
set_option linter.unusedSimpArgs false

/-- what the reference hands over -/
def OutR (w : World) (v : Value) (rk rn re : Int) (w' : World) : Prop :=
  (re = 0 ∧ ∃ b, w.heap.size ≤ b ∧ v = .slice (some ⟨b, 0, none⟩) 1 1 ∧ Row w' b #[.int .i64 (rk), .bool false, .int .i64 0, .int .i64 (rn), .string ⟨#[]⟩, .pointer none, .pointer none, .pointer none, .int .i64 0, .int .i64 0]) ∨ (re ≠ 0 ∧ v = .slice none 0 0)
def GivesR (w : World) (rk rn re : Int) (E : Ending) (w' : World) : Prop := ∃ v, E = .returned (.tuple #[v, .int .i64 re]) ∧ OutR w v rk rn re w'
theorem OutR.of_up {w w1 w2 : World} {rk rn re : Int} {v : Value} (h : OutR w1 v rk rn re w2) (hu : Up w w1) : OutR w v rk rn re w2 := by
  rcases h with ⟨h0, b, hb, h1, h2⟩ | h
  · exact Or.inl ⟨h0, b, Nat.le_trans hu.size hb, h1, h2⟩
  · exact Or.inr h
theorem OutR.up {w w1 w2 : World} {rk rn re : Int} {v : Value} (h : OutR w v rk rn re w1) (hu : Up w1 w2) : OutR w v rk rn re w2 := by
  rcases h with ⟨h0, b, hb, h1, h2⟩ | h
  · exact Or.inl ⟨h0, b, hb, h1, h2.up hu⟩
  · exact Or.inr h

theorem whole_r (n : Int) (w : World) : Calls Tryd.prog 22 #[.int .i64 n] w fun E w' => E = .returned (.agg #[.int .i64 (1), .bool false, .int .i64 0, .int .i64 (n), .string ⟨#[]⟩, .pointer none, .pointer none, .pointer none, .int .i64 0, .int .i64 0]) ∧ Up w w' := by
  go_enter Tryd.func22, Tryd.ntmps22
  go_wp2
  (try simp only [Exit.inBlock, Exit.then])
  refine bodyPost_ret (results_v rfl _ _ w.heap.size (cs := #[.int .i64 (1), .bool false, .int .i64 0, .int .i64 (n), .string ⟨#[]⟩, .pointer none, .pointer none, .pointer none, .int .i64 0, .int .i64 0]) (by (repeat' (first | (with_reducible assumption) | (with_reducible refine Row.at _ _ ?_; (simp; done)) | (with_reducible refine Row.alloc ?_ _) | (with_reducible refine Row.drew ?_) | (with_reducible refine Row.drewN ?_ _) | (with_reducible refine Row.other ?_ (by first | (simp; done) | (simp; omega) | omega) _) | (with_reducible refine Row.up ?_ (by with_reducible assumption)) | (with_reducible refine Row.chg ?_ (by with_reducible assumption) (by first | (simp; done) | (simp; omega)))))) rfl _ _ _ _ _ rfl rfl) rfl ?_
  exact ⟨rfl, by (repeat' (first | (with_reducible exact Up.refl _) | (with_reducible assumption) | (with_reducible refine Up.alloc ?_ _) | (with_reducible refine Up.drew ?_) | (with_reducible refine Up.drewN ?_ _) | (with_reducible refine Up.setCell ?_ ?_ _) | (with_reducible refine Up.call ?_ (by with_reducible assumption)) | go_size))⟩

theorem real_r (n : Int) (w : World) : Calls Tryd.prog 55 #[.int .i64 n] w fun E w' => E = .returned (.agg #[.int .i64 (2), .bool false, .int .i64 0, .int .i64 (n), .string ⟨#[]⟩, .pointer none, .pointer none, .pointer none, .int .i64 0, .int .i64 0]) ∧ Up w w' := by
  go_enter Tryd.func55, Tryd.ntmps55
  go_wp2
  (try simp only [Exit.inBlock, Exit.then])
  refine bodyPost_ret (results_v rfl _ _ w.heap.size (cs := #[.int .i64 (2), .bool false, .int .i64 0, .int .i64 (n), .string ⟨#[]⟩, .pointer none, .pointer none, .pointer none, .int .i64 0, .int .i64 0]) (by (repeat' (first | (with_reducible assumption) | (with_reducible refine Row.at _ _ ?_; (simp; done)) | (with_reducible refine Row.alloc ?_ _) | (with_reducible refine Row.drew ?_) | (with_reducible refine Row.drewN ?_ _) | (with_reducible refine Row.other ?_ (by first | (simp; done) | (simp; omega) | omega) _) | (with_reducible refine Row.up ?_ (by with_reducible assumption)) | (with_reducible refine Row.chg ?_ (by with_reducible assumption) (by first | (simp; done) | (simp; omega)))))) rfl _ _ _ _ _ rfl rfl) rfl ?_
  exact ⟨rfl, by (repeat' (first | (with_reducible exact Up.refl _) | (with_reducible assumption) | (with_reducible refine Up.alloc ?_ _) | (with_reducible refine Up.drew ?_) | (with_reducible refine Up.drewN ?_ _) | (with_reducible refine Up.setCell ?_ ?_ _) | (with_reducible refine Up.call ?_ (by with_reducible assumption)) | go_size))⟩

theorem truth_r (b : Bool) (w : World) : Calls Tryd.prog 20 #[.bool b] w fun E w' => E = .returned (.agg #[.int .i64 (3), .bool false, .int .i64 0, .int .i64 (truthN b), .string ⟨#[]⟩, .pointer none, .pointer none, .pointer none, .int .i64 0, .int .i64 0]) ∧ Up w w' := by
  cases b
  all_goals
    go_enter Tryd.func20, Tryd.ntmps20
    go_wp2
    (try simp only [Exit.inBlock, Exit.then])
  · refine bodyPost_ret (results_v rfl _ _ w.heap.size (cs := #[.int .i64 (3), .bool false, .int .i64 0, .int .i64 (0), .string ⟨#[]⟩, .pointer none, .pointer none, .pointer none, .int .i64 0, .int .i64 0]) (by (repeat' (first | (with_reducible assumption) | (with_reducible refine Row.at _ _ ?_; (simp; done)) | (with_reducible refine Row.alloc ?_ _) | (with_reducible refine Row.drew ?_) | (with_reducible refine Row.drewN ?_ _) | (with_reducible refine Row.other ?_ (by first | (simp; done) | (simp; omega) | omega) _) | (with_reducible refine Row.up ?_ (by with_reducible assumption)) | (with_reducible refine Row.chg ?_ (by with_reducible assumption) (by first | (simp; done) | (simp; omega)))))) rfl _ _ _ _ _ rfl rfl) rfl ?_
    exact ⟨rfl, by (repeat' (first | (with_reducible exact Up.refl _) | (with_reducible assumption) | (with_reducible refine Up.alloc ?_ _) | (with_reducible refine Up.drew ?_) | (with_reducible refine Up.drewN ?_ _) | (with_reducible refine Up.setCell ?_ ?_ _) | (with_reducible refine Up.call ?_ (by with_reducible assumption)) | go_size))⟩
  · refine bodyPost_ret (results_v rfl _ _ w.heap.size (cs := #[.int .i64 (3), .bool false, .int .i64 0, .int .i64 (1), .string ⟨#[]⟩, .pointer none, .pointer none, .pointer none, .int .i64 0, .int .i64 0]) (by (repeat' (first | (with_reducible assumption) | (with_reducible refine Row.at _ _ ?_; (simp; done)) | (with_reducible refine Row.alloc ?_ _) | (with_reducible refine Row.drew ?_) | (with_reducible refine Row.drewN ?_ _) | (with_reducible refine Row.other ?_ (by first | (simp; done) | (simp; omega) | omega) _) | (with_reducible refine Row.up ?_ (by with_reducible assumption)) | (with_reducible refine Row.chg ?_ (by with_reducible assumption) (by first | (simp; done) | (simp; omega)))))) rfl _ _ _ _ _ rfl rfl) rfl ?_
    exact ⟨rfl, by (repeat' (first | (with_reducible exact Up.refl _) | (with_reducible assumption) | (with_reducible refine Up.alloc ?_ _) | (with_reducible refine Up.drew ?_) | (with_reducible refine Up.drewN ?_ _) | (with_reducible refine Up.setCell ?_ ?_ _) | (with_reducible refine Up.call ?_ (by with_reducible assumption)) | go_size))⟩

theorem one_r (k n : Int) (w : World) : Calls Tryd.prog 19 #[.agg #[.int .i64 (k), .bool false, .int .i64 0, .int .i64 (n), .string ⟨#[]⟩, .pointer none, .pointer none, .pointer none, .int .i64 0, .int .i64 0]] w fun E w' => GivesR w k n 0 E w' ∧ Up w w' := by
  go_enter Tryd.func19, Tryd.ntmps19
  go_wp2
  go_ret2
  exact ⟨⟨_, rfl, Or.inl ⟨rfl, w.heap.size + 1, by omega, rfl, by (repeat' (first | (with_reducible assumption) | (with_reducible refine Row.at _ _ ?_; (simp; done)) | (with_reducible refine Row.alloc ?_ _) | (with_reducible refine Row.drew ?_) | (with_reducible refine Row.drewN ?_ _) | (with_reducible refine Row.other ?_ (by first | (simp; done) | (simp; omega) | omega) _) | (with_reducible refine Row.up ?_ (by with_reducible assumption)) | (with_reducible refine Row.chg ?_ (by with_reducible assumption) (by first | (simp; done) | (simp; omega)))))⟩⟩, by (repeat' (first | (with_reducible exact Up.refl _) | (with_reducible assumption) | (with_reducible refine Up.alloc ?_ _) | (with_reducible refine Up.drew ?_) | (with_reducible refine Up.drewN ?_ _) | (with_reducible refine Up.setCell ?_ ?_ _) | (with_reducible refine Up.call ?_ (by with_reducible assumption)) | go_size))⟩

theorem gives_r (n e : Int) (rk rn re : Int) (hR : real (n, e) = (rk, rn, re)) (w : World) : Calls Tryd.prog 30 #[.int .i64 n, .int .i64 e] w fun E w' => GivesR w rk rn re E w' ∧ Up w w' := by
  by_cases h : e = 0
  · subst h
    obtain ⟨rfl, rfl, rfl⟩ : 2 = rk ∧ n = rn ∧ 0 = re := by simpa [real] using hR
    clear hR
    go_enter Tryd.func30, Tryd.ntmps30
    go_wp2_with (go_at_call 55; ((with_reducible refine (real_r n _).mono ?_); rintro E w1 ⟨rfl, hu1⟩))
    go_ret2
    exact ⟨⟨_, rfl, Or.inl ⟨rfl, w1.heap.size, hu1.size, rfl, by (repeat' (first | (with_reducible assumption) | (with_reducible refine Row.at _ _ ?_; (simp; done)) | (with_reducible refine Row.alloc ?_ _) | (with_reducible refine Row.drew ?_) | (with_reducible refine Row.drewN ?_ _) | (with_reducible refine Row.other ?_ (by first | (simp; done) | (simp; omega) | omega) _) | (with_reducible refine Row.up ?_ (by with_reducible assumption)) | (with_reducible refine Row.chg ?_ (by with_reducible assumption) (by first | (simp; done) | (simp; omega)))))⟩⟩, by (repeat' (first | (with_reducible exact Up.refl _) | (with_reducible assumption) | (with_reducible refine Up.alloc ?_ _) | (with_reducible refine Up.drew ?_) | (with_reducible refine Up.drewN ?_ _) | (with_reducible refine Up.setCell ?_ ?_ _) | (with_reducible refine Up.call ?_ (by with_reducible assumption)) | go_size))⟩
  · obtain ⟨rfl, rfl, rfl⟩ : 0 = rk ∧ 0 = rn ∧ e = re := by simpa [real, h] using hR
    have d : (e == 0) = false := by simpa using h
    have H := Lib.hid h
    clear h hR
    go_enter Tryd.func30, Tryd.ntmps30
    go_wp2
    go_ret2
    exact ⟨⟨_, rfl, Or.inr ⟨H.out, rfl⟩⟩, by (repeat' (first | (with_reducible exact Up.refl _) | (with_reducible assumption) | (with_reducible refine Up.alloc ?_ _) | (with_reducible refine Up.drew ?_) | (with_reducible refine Up.drewN ?_ _) | (with_reducible refine Up.setCell ?_ ?_ _) | (with_reducible refine Up.call ?_ (by with_reducible assumption)) | go_size))⟩

theorem asReal_r (k : Int) (x : Bool) (a n : Int) (s : ByteArray) (w : World) (p q : Int) (h : asReal k n = (p, q)) : Calls Tryd.prog 29 #[.agg #[.int .i64 k, .bool x, .int .i64 a, .int .i64 n, .string s, .pointer none, .pointer none, .pointer none, .int .i64 0, .int .i64 0]] w fun E w' => E = .returned (.tuple #[.int .i64 p, .int .i64 q]) ∧ Up w w' := by
  by_cases hk : k = 1
  · subst hk
    have h2 : FixM.fromInt n = (p, q) := by simpa [asReal] using h
    have e1 : (FixM.fromInt n).1 = p := by rw [h2]
    have e2 : (FixM.fromInt n).2 = q := by rw [h2]
    have E1 := Lib.hid e1
    have E2 := Lib.hid e2
    clear h h2 e1 e2
    go_enter Tryd.func29, Tryd.ntmps29
    go_wp2_with (go_at_call 58; ((with_reducible refine (Rfix.fromInt_calls _ _).mono ?_); rw [E1.out, E2.out]; rintro E w1 ⟨rfl, rfl⟩))
    go_ret2
    exact ⟨rfl, by (repeat' (first | (with_reducible exact Up.refl _) | (with_reducible assumption) | (with_reducible refine Up.alloc ?_ _) | (with_reducible refine Up.drew ?_) | (with_reducible refine Up.drewN ?_ _) | (with_reducible refine Up.setCell ?_ ?_ _) | (with_reducible refine Up.call ?_ (by with_reducible assumption)) | go_size))⟩
  · obtain ⟨rfl, rfl⟩ : n = p ∧ 0 = q := by simpa [asReal, hk] using h
    have d : (k == 1) = false := by simpa using hk
    clear h hk
    go_enter Tryd.func29, Tryd.ntmps29
    go_wp2
    go_ret2
    exact ⟨rfl, by (repeat' (first | (with_reducible exact Up.refl _) | (with_reducible assumption) | (with_reducible refine Up.alloc ?_ _) | (with_reducible refine Up.drew ?_) | (with_reducible refine Up.drewN ?_ _) | (with_reducible refine Up.setCell ?_ ?_ _) | (with_reducible refine Up.call ?_ (by with_reducible assumption)) | go_size))⟩

theorem value_r (k : Int) (x : Bool) (a n : Int) (s : ByteArray) (w : World) (v : Int) (h : scaled k n = v) (h1 : -2147483648 ≤ n) (h2 : n ≤ 2147483647) : Calls Tryd.prog 27 #[.agg #[.int .i64 k, .bool x, .int .i64 a, .int .i64 n, .string s, .pointer none, .pointer none, .pointer none, .int .i64 0, .int .i64 0]] w fun E w' => E = .returned (.int .i64 v) ∧ Up w w' := by
  by_cases hk : k = 1
  · subst hk
    obtain rfl : n * 65536 = v := by simpa [scaled] using h
    clear h
    go_enter Tryd.func27, Tryd.ntmps27
    go_wp2
    go_ret
    exact ⟨rfl, by (repeat' (first | (with_reducible exact Up.refl _) | (with_reducible assumption) | (with_reducible refine Up.alloc ?_ _) | (with_reducible refine Up.drew ?_) | (with_reducible refine Up.drewN ?_ _) | (with_reducible refine Up.setCell ?_ ?_ _) | (with_reducible refine Up.call ?_ (by with_reducible assumption)) | go_size))⟩
  · obtain rfl : n = v := by simpa [scaled, hk] using h
    have d : (k == 1) = false := by simpa using hk
    clear h hk
    go_enter Tryd.func27, Tryd.ntmps27
    go_wp2
    go_ret
    exact ⟨rfl, by (repeat' (first | (with_reducible exact Up.refl _) | (with_reducible assumption) | (with_reducible refine Up.alloc ?_ _) | (with_reducible refine Up.drew ?_) | (with_reducible refine Up.drewN ?_ _) | (with_reducible refine Up.setCell ?_ ?_ _) | (with_reducible refine Up.call ?_ (by with_reducible assumption)) | go_size))⟩

theorem isInt_r (k : Int) (x : Bool) (a n : Int) (s : ByteArray) (w : World) (v : Bool) (h : isI k n = v) : Calls Tryd.prog 21 #[.agg #[.int .i64 k, .bool x, .int .i64 a, .int .i64 n, .string s, .pointer none, .pointer none, .pointer none, .int .i64 0, .int .i64 0]] w fun E w' => E = .returned (.bool v) ∧ Up w w' := by
  by_cases hk : k = 1
  · subst hk
    have e : numb 1 n = v := by rw [← h]; simp [numb, isI]
    have E0 := Lib.hid e
    clear h e
    go_enter Tryd.func21, Tryd.ntmps21
    go_wp2_with (go_at_call 15; ((with_reducible refine (isNumber_calls _ _ _ _ _ _).mono ?_); rw [E0.out]; rintro E w1 ⟨rfl, hu1⟩))
    go_ret
    exact ⟨rfl, by (repeat' (first | (with_reducible exact Up.refl _) | (with_reducible assumption) | (with_reducible refine Up.alloc ?_ _) | (with_reducible refine Up.drew ?_) | (with_reducible refine Up.drewN ?_ _) | (with_reducible refine Up.setCell ?_ ?_ _) | (with_reducible refine Up.call ?_ (by with_reducible assumption)) | go_size))⟩
  · obtain rfl : false = v := by rw [← h]; simp [isI, hk]
    have d : (k == 1) = false := by simpa using hk
    clear h hk
    go_enter Tryd.func21, Tryd.ntmps21
    go_wp2
    go_ret
    exact ⟨rfl, by (repeat' (first | (with_reducible exact Up.refl _) | (with_reducible assumption) | (with_reducible refine Up.alloc ?_ _) | (with_reducible refine Up.drew ?_) | (with_reducible refine Up.drewN ?_ _) | (with_reducible refine Up.setCell ?_ ?_ _) | (with_reducible refine Up.call ?_ (by with_reducible assumption)) | go_size))⟩

theorem isTruth_r (k : Int) (x : Bool) (a n : Int) (s : ByteArray) (w : World) (v : Bool) (h : isT k n = v) : Calls Tryd.prog 18 #[.agg #[.int .i64 k, .bool x, .int .i64 a, .int .i64 n, .string s, .pointer none, .pointer none, .pointer none, .int .i64 0, .int .i64 0]] w fun E w' => E = .returned (.bool v) ∧ Up w w' := by
  by_cases hk : k = 3
  · subst hk
    by_cases h0 : n = 0
    · subst h0
      obtain rfl : true = v := by rw [← h]; rfl
      clear h
      go_enter Tryd.func18, Tryd.ntmps18
      go_wp2
      go_ret
      exact ⟨rfl, by (repeat' (first | (with_reducible exact Up.refl _) | (with_reducible assumption) | (with_reducible refine Up.alloc ?_ _) | (with_reducible refine Up.drew ?_) | (with_reducible refine Up.drewN ?_ _) | (with_reducible refine Up.setCell ?_ ?_ _) | (with_reducible refine Up.call ?_ (by with_reducible assumption)) | go_size))⟩
    · have d0 : (n == 0) = false := by simpa using h0
      have e : (n == 1) = v := by rw [← h]; simp [isT, d0]
      have E0 := Lib.hid e
      clear h e h0
      go_enter Tryd.func18, Tryd.ntmps18
      go_wp2
      go_ret
      exact ⟨retb E0.out, by (repeat' (first | (with_reducible exact Up.refl _) | (with_reducible assumption) | (with_reducible refine Up.alloc ?_ _) | (with_reducible refine Up.drew ?_) | (with_reducible refine Up.drewN ?_ _) | (with_reducible refine Up.setCell ?_ ?_ _) | (with_reducible refine Up.call ?_ (by with_reducible assumption)) | go_size))⟩
  · obtain rfl : false = v := by rw [← h]; simp [isT, hk]
    have d : (k == 3) = false := by simpa using hk
    clear h hk
    go_enter Tryd.func18, Tryd.ntmps18
    go_wp2
    go_ret
    exact ⟨rfl, by (repeat' (first | (with_reducible exact Up.refl _) | (with_reducible assumption) | (with_reducible refine Up.alloc ?_ _) | (with_reducible refine Up.drew ?_) | (with_reducible refine Up.drewN ?_ _) | (with_reducible refine Up.setCell ?_ ?_ _) | (with_reducible refine Up.call ?_ (by with_reducible assumption)) | go_size))⟩

theorem logic_0 (a b : Bool) (w : World) : Calls Tryd.prog 24 #[.string ⟨#[97, 110, 100]⟩, .bool a, .bool b] w fun E w' => E = .returned (.bool (BitM.bop 0 a b)) ∧ w = w' := by
  cases a <;> cases b
  all_goals
    go_enter Tryd.func24, Tryd.ntmps24
    go_wp2
    go_ret
    exact ⟨rfl, rfl⟩

theorem logic_1 (a b : Bool) (w : World) : Calls Tryd.prog 24 #[.string ⟨#[111, 114]⟩, .bool a, .bool b] w fun E w' => E = .returned (.bool (BitM.bop 1 a b)) ∧ w = w' := by
  cases a <;> cases b
  all_goals
    go_enter Tryd.func24, Tryd.ntmps24
    go_wp2
    go_ret
    exact ⟨rfl, rfl⟩

theorem logic_2 (a b : Bool) (w : World) : Calls Tryd.prog 24 #[.string ⟨#[120, 111, 114]⟩, .bool a, .bool b] w fun E w' => E = .returned (.bool (BitM.bop 2 a b)) ∧ w = w' := by
  cases a <;> cases b
  all_goals
    go_enter Tryd.func24, Tryd.ntmps24
    go_wp2
    go_ret
    exact ⟨rfl, rfl⟩

end Go.Proofs.YtakickodehebmaaDoor.Ar