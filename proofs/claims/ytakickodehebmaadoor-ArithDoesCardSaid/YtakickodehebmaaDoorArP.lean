/- What Do hands over; the law's answers: package arith. -/
import Derived.Test.YtakickodehebmaaDoorArN
import Derived.Test.YtakickodehebmaaDoorArO
namespace Go.Proofs.YtakickodehebmaaDoor.Ar
open Go.ChangeShapes Go.WideShapes Go.ChangeAt Go.RowKit
open Go.Proofs.YtakickodehebmaaDoor.FixM (fits within)
open Go.Proofs.YtakickodehebmaaDoor.ArM
set_option linter.unusedVariables false
set_option linter.unusedSimpArgs false

theorem Gives.ok {w w' : World} {rk rn : Int} {E : Ending} (h : Gives w rk rn 0 E w') : ∃ b, w.heap.size ≤ b ∧ E = .returned (.tuple #[.slice (some ⟨b, 0, none⟩) 1 1, .int .i64 0]) ∧ Row w' b #[.int .i64 (rk), .bool false, .int .i64 0, .int .i64 (rn), .string ⟨#[]⟩, .int .i64 0, .int .i64 0, .int .i64 0] := by
  rcases h with ⟨_, h⟩ | ⟨h, _⟩
  · exact h
  · exact absurd rfl h
theorem Gives.bad {w w' : World} {rk rn re : Int} {E : Ending} (h : Gives w rk rn re E w') (hz : re ≠ 0) : E = .returned (.tuple #[.slice none 0 0, .int .i64 re]) := by
  rcases h with ⟨h, _⟩ | ⟨_, h⟩
  · exact absurd h hz
  · exact h
theorem fits_of {n : Int} (h1 : -2147483648 ≤ n) (h2 : n ≤ 2147483647) : fits n = true := FixM.fits_true h1 h2
theorem isI_of {n : Int} (h1 : -2147483648 ≤ n) (h2 : n ≤ 2147483647) : isI 1 n = true := by simp [isI, fits_of h1 h2]
theorem isT_of {n : Int} : isT 1 n = false := by simp [isT]
theorem numb_of {n : Int} (h1 : -2147483648 ≤ n) (h2 : n ≤ 2147483647) : numb 1 n = true := by simp [numb, fits_of h1 h2]
/-- sums of whole numbers that are not too great -/
theorem bin_sum (c : Nat) (hc : c = 10 ∨ c = 11 ∨ c = 12) {a b : Int} (h1 : -2147483648 ≤ a) (h2 : a ≤ 2147483647) (h3 : -2147483648 ≤ b) (h4 : b ≤ 2147483647) (h5 : -2147483648 ≤ exactI c a b) (h6 : exactI c a b ≤ 2147483647) : bin c 1 a 1 b = (1, exactI c a b, 0) := by
  have f := fits_of h5 h6
  rcases hc with rfl | rfl | rfl <;> simp [bin, numb_of h1 h2, numb_of h3 h4, sums, isI_of h1 h2, isI_of h3 h4, f]
theorem bin_quot (c : Nat) (hc : c = 14 ∨ c = 15) {a b : Int} (h1 : -2147483648 ≤ a) (h2 : a ≤ 2147483647) (h3 : -2147483648 ≤ b) (h4 : b ≤ 2147483647) : bin c 1 a 1 b = quot c a b := by
  rcases hc with rfl | rfl <;> simp [bin, isI_of h1 h2, isI_of h3 h4]
theorem bin_bits (c : Nat) (hc : c = 16 ∨ c = 17 ∨ c = 18) {a b : Int} (h1 : -2147483648 ≤ a) (h2 : a ≤ 2147483647) (h3 : -2147483648 ≤ b) (h4 : b ≤ 2147483647) : bin c 1 a 1 b = (1, BitM.res (c - 16) a b, 0) := by
  rcases hc with rfl | rfl | rfl <;> simp [bin, isI_of h1 h2, isI_of h3 h4, isT_of]
theorem bin_shift {a b : Int} (h1 : -2147483648 ≤ a) (h2 : a ≤ 2147483647) (h3 : -2147483648 ≤ b) (h4 : b ≤ 2147483647) : bin 19 1 a 1 b = (1, shiftI a b, 0) := by
  simp [bin, isI_of h1 h2, isI_of h3 h4]
theorem un_not {a : Int} (h1 : -2147483648 ≤ a) (h2 : a ≤ 2147483647) : un 9 1 a = (1, -1 - a, 0) := by
  simp [un, isI_of h1 h2, isT_of]

set_option maxHeartbeats 1000000 in
theorem answers_calls (w : World) : Calls Tryd.prog 8 #[] w fun e w' => e = .returned (.bool true) ∧ Up w w' := by
  have H := Lib.hid (show bin 10 1 2 1 3 = (1, 5, 0) from bin_sum 10 (by decide) (by decide) (by decide) (by decide) (by decide) (by decide) (by decide))
  go_enter Tryd.func8, Tryd.ntmps8
  go_wp2_with (go_at_call 10; ((with_reducible refine (do_10 1 false 0 2 ⟨#[]⟩ 0 0 0 1 false 0 3 ⟨#[]⟩ 0 0 0 _ _ _ (Cs.of_row (by (repeat' (first | (with_reducible assumption) | (with_reducible refine Row.at _ _ ?_; (simp; done)) | (with_reducible refine Row.alloc ?_ _) | (with_reducible refine Row.drew ?_) | (with_reducible refine Row.drewN ?_ _) | (with_reducible refine Row.other ?_ (by first | (simp; done) | (simp; omega) | omega) _) | (with_reducible refine Row.up ?_ (by with_reducible assumption)) | (with_reducible refine Row.chg ?_ (by with_reducible assumption) (by first | (simp; done) | (simp; omega))))))) (by simp) _ _ _ H.out).mono ?_); rintro E w1 ⟨hg, hu1⟩; obtain ⟨b1, hb1, rfl, gb1⟩ := hg.ok; have pb1 := gb1.cell 0 rfl; have qb1 := gb1.cell 3 rfl; have lb1 := gb1.lt; have z_w1 := hu1.size; (try simp at z_w1)))
  go_ret
  exact ⟨rfl, by (repeat' (first | (with_reducible exact Up.refl _) | (with_reducible assumption) | (with_reducible refine Up.alloc ?_ _) | (with_reducible refine Up.drew ?_) | (with_reducible refine Up.drewN ?_ _) | (with_reducible refine Up.setCell ?_ ?_ _) | (with_reducible refine Up.call ?_ (by with_reducible assumption)) | go_size))⟩

end Go.Proofs.YtakickodehebmaaDoor.Ar
