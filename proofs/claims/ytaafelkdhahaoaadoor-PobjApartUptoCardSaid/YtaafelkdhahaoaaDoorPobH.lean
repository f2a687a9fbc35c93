/- The reference's hexa. No condition. -/
import Derived.Test.YtaafelkdhahaoaaDoorPobN
namespace Go.Proofs.YtaafelkdhahaoaaDoor.Pob
open Go.ChangeShapes Go.WideShapes Go.RowKit Go.Shelf
set_option linter.unusedVariables false
set_option linter.unusedSimpArgs false

theorem hex_slice (i : Nat) (hi : i < 16) (W : World) : (Instr.slice 9 (.string ⟨#[48, 49, 50, 51, 52, 53, 54, 55, 56, 57, 97, 98, 99, 100, 101, 102]⟩) (some (.int .u8 (i : Int))) (some (.int .u8 ((i : Int) + 1))) none).run Tryd.prog W = .ok (.string ⟨#[hexc i]⟩) W := by
  have h : i = 0 ∨ i = 1 ∨ i = 2 ∨ i = 3 ∨ i = 4 ∨ i = 5 ∨ i = 6 ∨ i = 7 ∨ i = 8 ∨ i = 9 ∨ i = 10 ∨ i = 11 ∨ i = 12 ∨ i = 13 ∨ i = 14 ∨ i = 15 := by omega
  rcases h with rfl | rfl | rfl | rfl | rfl | rfl | rfl | rfl | rfl | rfl | rfl | rfl | rfl | rfl | rfl | rfl <;> rfl
set_option maxRecDepth 8000 in
set_option maxHeartbeats 1000000 in
theorem hexa_calls (i j : Nat) (hi : i < 16) (hj : j < 16) (C : Int) (hC : C = (i : Int) * 16 + j) (w : World) : Calls Tryd.prog 46 #[.int .u8 C] w fun e w' => e = .returned (.string ⟨#[hexc i, hexc j]⟩) ∧ Up w w' := by
  have g1 : 0 ≤ C := by omega
  have g2 : C ≤ 255 := by omega
  have s1 := fun W => hex_slice i hi W
  have s2 := fun W => hex_slice j hj W
  rw [show (i : Int) = C / 16 by omega] at s1
  rw [show (j : Int) = C % 16 by omega] at s2
  obtain ⟨a, ha⟩ : ∃ a, hexc i = a := ⟨_, rfl⟩
  obtain ⟨b, hb⟩ : ∃ b, hexc j = b := ⟨_, rfl⟩
  rw [ha] at s1 ⊢
  rw [hb] at s2 ⊢
  clear hC ha hb hi hj
  go_enter Tryd.func46, Tryd.ntmps46
  go_wp2
  go_region
  go_wp2
  go_ret
  exact ⟨rfl, by (repeat' (first | (with_reducible exact Up.refl _) | (with_reducible assumption) | (with_reducible refine Up.alloc ?_ _) | (with_reducible refine Up.drew ?_) | (with_reducible refine Up.drewN ?_ _) | (with_reducible refine Up.setCell ?_ ?_ _) | (with_reducible refine Up.call ?_ (by with_reducible assumption)) | go_size))⟩
end Go.Proofs.YtaafelkdhahaoaaDoor.Pob
