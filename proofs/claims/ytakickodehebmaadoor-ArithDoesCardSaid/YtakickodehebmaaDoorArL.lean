/- Which operators there are: package arith. -/
import Derived.Test.YtakickodehebmaaDoorArA
namespace Go.Proofs.YtakickodehebmaaDoor.Ar
open Go.ChangeShapes Go.WideShapes Go.ChangeAt Go.RowKit
open Go.Proofs.YtakickodehebmaaDoor.FixM (fits within)
open Go.Proofs.YtakickodehebmaaDoor.ArM
set_option linter.unusedVariables false
set_option linter.unusedSimpArgs false
/-- cells of a block from its start on -/
def Cs (w : World) (g : Nat) (cs : Array Value) : Prop := ∀ i u, cs[i]? = some u → w.cell? ⟨g, i, none⟩ = some u
theorem Cs.up {w w1 : World} {g : Nat} {cs : Array Value} (h : Cs w g cs) (hg : g < w.heap.size) (hu : Up w w1) : Cs w1 g cs := fun i u e => (hu.cells.1 g i hg).trans (h i u e)
theorem Cs.of_row {w : World} {g : Nat} {cs : Array Value} (h : Row w g cs) : Cs w g cs := fun i u e => h.cell i e
/-- what Do hands over -/
def Gives (w : World) (rk rn re : Int) (E : Ending) (w' : World) : Prop :=
  (re = 0 ∧ ∃ b, w.heap.size ≤ b ∧ E = .returned (.tuple #[.slice (some ⟨b, 0, none⟩) 1 1, .int .i64 0]) ∧ Row w' b #[.int .i64 rk, .bool false, .int .i64 0, .int .i64 rn, .string ⟨#[]⟩, .int .i64 0, .int .i64 0, .int .i64 0]) ∨
  (re ≠ 0 ∧ E = .returned (.tuple #[.slice none 0 0, .int .i64 re]))

theorem known_0 (w : World) : Calls Tryd.prog 7 #[.string ⟨#[110, 101, 103]⟩] w fun e w' => e = .returned (.tuple #[.int .i64 1, .bool true]) ∧ w = w' := by
  go_enter Tryd.func7, Tryd.ntmps7
  go_wp2
  go_ret2
  exact ⟨rfl, rfl⟩
theorem known_1 (w : World) : Calls Tryd.prog 7 #[.string ⟨#[97, 98, 115]⟩] w fun e w' => e = .returned (.tuple #[.int .i64 1, .bool true]) ∧ w = w' := by
  go_enter Tryd.func7, Tryd.ntmps7
  go_wp2
  go_ret2
  exact ⟨rfl, rfl⟩
theorem known_2 (w : World) : Calls Tryd.prog 7 #[.string ⟨#[99, 101, 105, 108, 105, 110, 103]⟩] w fun e w' => e = .returned (.tuple #[.int .i64 1, .bool true]) ∧ w = w' := by
  go_enter Tryd.func7, Tryd.ntmps7
  go_wp2
  go_ret2
  exact ⟨rfl, rfl⟩
theorem known_3 (w : World) : Calls Tryd.prog 7 #[.string ⟨#[102, 108, 111, 111, 114]⟩] w fun e w' => e = .returned (.tuple #[.int .i64 1, .bool true]) ∧ w = w' := by
  go_enter Tryd.func7, Tryd.ntmps7
  go_wp2
  go_ret2
  exact ⟨rfl, rfl⟩
theorem known_4 (w : World) : Calls Tryd.prog 7 #[.string ⟨#[114, 111, 117, 110, 100]⟩] w fun e w' => e = .returned (.tuple #[.int .i64 1, .bool true]) ∧ w = w' := by
  go_enter Tryd.func7, Tryd.ntmps7
  go_wp2
  go_ret2
  exact ⟨rfl, rfl⟩
theorem known_5 (w : World) : Calls Tryd.prog 7 #[.string ⟨#[116, 114, 117, 110, 99, 97, 116, 101]⟩] w fun e w' => e = .returned (.tuple #[.int .i64 1, .bool true]) ∧ w = w' := by
  go_enter Tryd.func7, Tryd.ntmps7
  go_wp2
  go_ret2
  exact ⟨rfl, rfl⟩
theorem known_6 (w : World) : Calls Tryd.prog 7 #[.string ⟨#[115, 113, 114, 116]⟩] w fun e w' => e = .returned (.tuple #[.int .i64 1, .bool true]) ∧ w = w' := by
  go_enter Tryd.func7, Tryd.ntmps7
  go_wp2
  go_ret2
  exact ⟨rfl, rfl⟩
theorem known_7 (w : World) : Calls Tryd.prog 7 #[.string ⟨#[115, 105, 110]⟩] w fun e w' => e = .returned (.tuple #[.int .i64 1, .bool true]) ∧ w = w' := by
  go_enter Tryd.func7, Tryd.ntmps7
  go_wp2
  go_ret2
  exact ⟨rfl, rfl⟩
theorem known_8 (w : World) : Calls Tryd.prog 7 #[.string ⟨#[99, 111, 115]⟩] w fun e w' => e = .returned (.tuple #[.int .i64 1, .bool true]) ∧ w = w' := by
  go_enter Tryd.func7, Tryd.ntmps7
  go_wp2
  go_ret2
  exact ⟨rfl, rfl⟩
theorem known_9 (w : World) : Calls Tryd.prog 7 #[.string ⟨#[110, 111, 116]⟩] w fun e w' => e = .returned (.tuple #[.int .i64 1, .bool true]) ∧ w = w' := by
  go_enter Tryd.func7, Tryd.ntmps7
  go_wp2
  go_ret2
  exact ⟨rfl, rfl⟩
theorem known_10 (w : World) : Calls Tryd.prog 7 #[.string ⟨#[97, 100, 100]⟩] w fun e w' => e = .returned (.tuple #[.int .i64 2, .bool true]) ∧ w = w' := by
  go_enter Tryd.func7, Tryd.ntmps7
  go_wp2
  go_ret2
  exact ⟨rfl, rfl⟩
theorem known_11 (w : World) : Calls Tryd.prog 7 #[.string ⟨#[115, 117, 98]⟩] w fun e w' => e = .returned (.tuple #[.int .i64 2, .bool true]) ∧ w = w' := by
  go_enter Tryd.func7, Tryd.ntmps7
  go_wp2
  go_ret2
  exact ⟨rfl, rfl⟩
theorem known_12 (w : World) : Calls Tryd.prog 7 #[.string ⟨#[109, 117, 108]⟩] w fun e w' => e = .returned (.tuple #[.int .i64 2, .bool true]) ∧ w = w' := by
  go_enter Tryd.func7, Tryd.ntmps7
  go_wp2
  go_ret2
  exact ⟨rfl, rfl⟩
theorem known_13 (w : World) : Calls Tryd.prog 7 #[.string ⟨#[100, 105, 118]⟩] w fun e w' => e = .returned (.tuple #[.int .i64 2, .bool true]) ∧ w = w' := by
  go_enter Tryd.func7, Tryd.ntmps7
  go_wp2
  go_ret2
  exact ⟨rfl, rfl⟩
theorem known_14 (w : World) : Calls Tryd.prog 7 #[.string ⟨#[105, 100, 105, 118]⟩] w fun e w' => e = .returned (.tuple #[.int .i64 2, .bool true]) ∧ w = w' := by
  go_enter Tryd.func7, Tryd.ntmps7
  go_wp2
  go_ret2
  exact ⟨rfl, rfl⟩
theorem known_15 (w : World) : Calls Tryd.prog 7 #[.string ⟨#[109, 111, 100]⟩] w fun e w' => e = .returned (.tuple #[.int .i64 2, .bool true]) ∧ w = w' := by
  go_enter Tryd.func7, Tryd.ntmps7
  go_wp2
  go_ret2
  exact ⟨rfl, rfl⟩
theorem known_16 (w : World) : Calls Tryd.prog 7 #[.string ⟨#[97, 110, 100]⟩] w fun e w' => e = .returned (.tuple #[.int .i64 2, .bool true]) ∧ w = w' := by
  go_enter Tryd.func7, Tryd.ntmps7
  go_wp2
  go_ret2
  exact ⟨rfl, rfl⟩
theorem known_17 (w : World) : Calls Tryd.prog 7 #[.string ⟨#[111, 114]⟩] w fun e w' => e = .returned (.tuple #[.int .i64 2, .bool true]) ∧ w = w' := by
  go_enter Tryd.func7, Tryd.ntmps7
  go_wp2
  go_ret2
  exact ⟨rfl, rfl⟩
theorem known_18 (w : World) : Calls Tryd.prog 7 #[.string ⟨#[120, 111, 114]⟩] w fun e w' => e = .returned (.tuple #[.int .i64 2, .bool true]) ∧ w = w' := by
  go_enter Tryd.func7, Tryd.ntmps7
  go_wp2
  go_ret2
  exact ⟨rfl, rfl⟩
theorem known_19 (w : World) : Calls Tryd.prog 7 #[.string ⟨#[98, 105, 116, 115, 104, 105, 102, 116]⟩] w fun e w' => e = .returned (.tuple #[.int .i64 2, .bool true]) ∧ w = w' := by
  go_enter Tryd.func7, Tryd.ntmps7
  go_wp2
  go_ret2
  exact ⟨rfl, rfl⟩
theorem known_20 (w : World) : Calls Tryd.prog 7 #[.string ⟨#[103, 116]⟩] w fun e w' => e = .returned (.tuple #[.int .i64 2, .bool true]) ∧ w = w' := by
  go_enter Tryd.func7, Tryd.ntmps7
  go_wp2
  go_ret2
  exact ⟨rfl, rfl⟩
theorem known_21 (w : World) : Calls Tryd.prog 7 #[.string ⟨#[103, 101]⟩] w fun e w' => e = .returned (.tuple #[.int .i64 2, .bool true]) ∧ w = w' := by
  go_enter Tryd.func7, Tryd.ntmps7
  go_wp2
  go_ret2
  exact ⟨rfl, rfl⟩
theorem known_22 (w : World) : Calls Tryd.prog 7 #[.string ⟨#[108, 116]⟩] w fun e w' => e = .returned (.tuple #[.int .i64 2, .bool true]) ∧ w = w' := by
  go_enter Tryd.func7, Tryd.ntmps7
  go_wp2
  go_ret2
  exact ⟨rfl, rfl⟩
theorem known_23 (w : World) : Calls Tryd.prog 7 #[.string ⟨#[108, 101]⟩] w fun e w' => e = .returned (.tuple #[.int .i64 2, .bool true]) ∧ w = w' := by
  go_enter Tryd.func7, Tryd.ntmps7
  go_wp2
  go_ret2
  exact ⟨rfl, rfl⟩
end Go.Proofs.YtakickodehebmaaDoor.Ar
