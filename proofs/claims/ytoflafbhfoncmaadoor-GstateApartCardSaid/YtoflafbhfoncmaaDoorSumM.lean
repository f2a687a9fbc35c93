/- Sums of many numbers, in plain integers. No program in sight; no condition. -/
import Derived.Test.YtoflafbhfoncmaaDoorFixM
namespace Go.Proofs.YtoflafbhfoncmaaDoor.FixM

/-! sums of many -/
def sumF : Int → List Int → Int × Int
  | t, [] => (t, 0)
  | t, z :: zs => if (add t z).2 = 0 then sumF (add t z).1 zs else (0, (add t z).2)
def sum (zs : List Int) : Int × Int := sumF 0 zs

theorem sumF_append (zs : List Int) (z : Int) : ∀ t, sumF t (zs ++ [z]) = if (sumF t zs).2 = 0 then (if (add (sumF t zs).1 z).2 = 0 then (add (sumF t zs).1 z) else (0, (add (sumF t zs).1 z).2)) else sumF t zs := by
  induction zs with
  | nil =>
    intro t
    by_cases h : (add t z).2 = 0
    · simp only [List.nil_append, sumF, if_true, h]
      exact Prod.ext rfl h.symm
    · simp only [List.nil_append, sumF, if_true, h, if_false]
  | cons y ys ih =>
    intro t
    by_cases h : (add t y).2 = 0
    · simp only [List.cons_append, sumF, h, if_true]
      exact ih _
    · simp only [List.cons_append, sumF, h, if_false]
/-- an error stays -/
theorem sumF_stays (zs ys : List Int) : ∀ t, (sumF t zs).2 ≠ 0 → sumF t (zs ++ ys) = sumF t zs := by
  induction zs with
  | nil => intro t h; exact absurd rfl h
  | cons y zs ih =>
    intro t h
    simp only [List.cons_append, sumF] at *
    split
    · rename_i h2; rw [if_pos h2] at h; exact ih _ h
    · rfl
theorem sumF_err (zs : List Int) : ∀ t, (sumF t zs).2 ≠ 0 → (sumF t zs).1 = 0 := by
  induction zs with
  | nil => intro t h; exact absurd rfl h
  | cons y zs ih =>
    intro t h
    simp only [sumF] at *
    split
    · rename_i h2; rw [if_pos h2] at h; exact ih _ h
    · rfl

theorem within_err (n : Int) (h : (within n).2 ≠ 0) : (within n).1 = 0 := by
  by_cases hf : fits n = true
  · simp [within, hf] at h
  · simp [within, hf]
theorem add_err (t z : Int) (h : (add t z).2 ≠ 0) : (add t z).1 = 0 := by
  by_cases hf : (fits t && fits z) = true
  · simp only [add, hf, if_true] at *
    exact within_err _ h
  · simp [add, hf]

end Go.Proofs.YtoflafbhfoncmaaDoor.FixM
