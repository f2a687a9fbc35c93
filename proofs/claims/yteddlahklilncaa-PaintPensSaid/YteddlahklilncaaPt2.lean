/- Which items of a page are sound: the plain tests, and paint's functions walked. Its condition: the fonts' names lie as they are laid. -/
import Derived.Test.YteddlahklilncaaPt1
import Derived.Test.YteddlahklilncaaEq6
namespace Go.Proofs.Yteddlahklilncaa.Pt
open Go.ChangeShapes Go.WideShapes Go.ChangeAt Go.RowKit
open Go.Proofs.Yteddlahklilncaa.FixM (fits)
open Go.Proofs.Yteddlahklilncaa.PathM (Seg sound)
open Go.Proofs.Yteddlahklilncaa.MatM (M6)
set_option linter.unusedVariables false
set_option linter.unusedSimpArgs false

def sideR (n : Int) : Bool := decide (65536 ≤ n) && (decide (n ≤ 943718400) && (n.tmod 65536 == 0))

theorem side_calls (n : Int) (w : World) : Calls Try.prog 16 #[.int .i64 n] w fun E w' => E = .returned (.bool (sideR n)) ∧ Up w w' := by
  obtain ⟨b_h1, h1⟩ : ∃ b, (decide (65536 ≤ n)) = b := ⟨_, rfl⟩
  cases b_h1
  · go_enter Try.func16, Try.ntmps16
    go_wp2
    go_ret
    exact ⟨by simp [sideR, h1], by (repeat' (first | (with_reducible exact Up.refl _) | (with_reducible assumption) | (with_reducible refine Up.alloc ?_ _) | (with_reducible refine Up.drew ?_) | (with_reducible refine Up.drewN ?_ _) | (with_reducible refine Up.setCell ?_ ?_ _) | (with_reducible refine Up.call ?_ (by with_reducible assumption)) | go_size))⟩
  obtain ⟨b_h2, h2⟩ : ∃ b, (decide (n ≤ 943718400)) = b := ⟨_, rfl⟩
  cases b_h2
  · go_enter Try.func16, Try.ntmps16
    go_wp2
    go_ret
    exact ⟨by simp [sideR, h1, h2], by (repeat' (first | (with_reducible exact Up.refl _) | (with_reducible assumption) | (with_reducible refine Up.alloc ?_ _) | (with_reducible refine Up.drew ?_) | (with_reducible refine Up.drewN ?_ _) | (with_reducible refine Up.setCell ?_ ?_ _) | (with_reducible refine Up.call ?_ (by with_reducible assumption)) | go_size))⟩
  obtain ⟨b_h3, h3⟩ : ∃ b, (n.tmod 65536 == 0) = b := ⟨_, rfl⟩
  cases b_h3
  · go_enter Try.func16, Try.ntmps16
    go_wp2
    go_ret
    exact ⟨by simp [sideR, h1, h2, h3], by (repeat' (first | (with_reducible exact Up.refl _) | (with_reducible assumption) | (with_reducible refine Up.alloc ?_ _) | (with_reducible refine Up.drew ?_) | (with_reducible refine Up.drewN ?_ _) | (with_reducible refine Up.setCell ?_ ?_ _) | (with_reducible refine Up.call ?_ (by with_reducible assumption)) | go_size))⟩
  go_enter Try.func16, Try.ntmps16
  go_wp2
  go_ret
  exact ⟨by simp [sideR, h1, h2, h3], by (repeat' (first | (with_reducible exact Up.refl _) | (with_reducible assumption) | (with_reducible refine Up.alloc ?_ _) | (with_reducible refine Up.drew ?_) | (with_reducible refine Up.drewN ?_ _) | (with_reducible refine Up.setCell ?_ ?_ _) | (with_reducible refine Up.call ?_ (by with_reducible assumption)) | go_size))⟩

end Go.Proofs.Yteddlahklilncaa.Pt