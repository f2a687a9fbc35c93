/- strconv.Itoa in the world of package pobj. Its condition: the library's table as laid. -/
import Derived.Test.YtaafelkdhahaoaaDoorPobI
namespace Go.Proofs.YtaafelkdhahaoaaDoor.Pob
open Go.ChangeShapes Go.WideShapes Go.RowKit Go.Shelf
set_option linter.unusedVariables false
set_option linter.unusedSimpArgs false

/-- the library's table of powers, as laid -/
abbrev PTab (w : World) : Prop := Lib.TabIs Tryd.prog w "internal/strconv.uint64pow10" .u64 Lib.pow10Tab
theorem PTab.up {w w1 : World} (h : PTab w) (hu : Up w w1) : PTab w1 := by
  unfold PTab Lib.TabIs World.var? at h ⊢
  obtain ⟨g, hg, h2⟩ := Option.bind_eq_some_iff.1 h
  rw [hg, Option.bind_some]
  have hlt : g < w.heap.size := by
    cases hq : w.heap[g]? with
    | none => rw [hq] at h2; cases h2
    | some o => exact (Array.getElem?_eq_some_iff.1 hq).1
  rw [hu.block g hlt]
  exact h2
theorem itoa_calls (n : Int) (h1 : -2147483648 ≤ n) (h2 : n ≤ 2147483647) (w : World) (ht : PTab w) : Calls Tryd.prog 29 #[.int .i64 n] w fun e w' => e = .returned (.string ⟨(intL n).toArray⟩) ∧ Up w w' := by
  refine (Tryd.strconv_Itoa n (by omega) (by omega) w ht).mono ?_
  rintro e w' ⟨rfl, k, os, rfl⟩
  refine ⟨by rw [itoa_eq], ?_⟩
  refine ⟨rfl, rfl, rfl, ?_, fun i hi => ?_⟩
  · simp [Sort.grow, World.drewN]
  · simp only [Sort.grow, World.drewN]
    rw [Array.getElem?_append_left hi]
end Go.Proofs.YtaafelkdhahaoaaDoor.Pob
