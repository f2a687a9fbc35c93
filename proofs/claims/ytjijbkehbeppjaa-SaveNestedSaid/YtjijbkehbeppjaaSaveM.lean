/- The saves that are alive, in plain numbers. No program in sight; no condition. -/
import Derived.WalkKit
namespace Go.Proofs.Ytjijbkehbeppjaa.SaveM

abbrev Sv := Int × Int
def stCells (l : List Sv) : List Value := l.flatMap (fun s => [.int .i64 s.1, .int .i64 s.2])
theorem stCells_length (l : List Sv) : (stCells l).length = l.length * 2 := by
  induction l with
  | nil => rfl
  | cons s l ih => simp only [stCells, List.flatMap_cons, List.length_append] at *; rw [ih]; simp; omega
theorem stCells_append (l m : List Sv) : stCells (l ++ m) = stCells l ++ stCells m := by simp [stCells]
theorem stCells_at : ∀ (l : List Sv) (i : Nat) (s : Sv), l[i]? = some s → (stCells l)[i * 2]? = some (.int .i64 s.1) ∧ (stCells l)[i * 2 + 1]? = some (.int .i64 s.2)
  | [], i, s, h => by simp at h
  | t :: l, 0, s, h => by
    simp only [List.getElem?_cons_zero, Option.some.injEq] at h
    subst h
    exact ⟨rfl, rfl⟩
  | t :: l, i + 1, s, h => by
    simp only [List.getElem?_cons_succ] at h
    obtain ⟨h1, h2⟩ := stCells_at l i s h
    rw [show (i + 1) * 2 = i * 2 + 1 + 1 by omega]
    exact ⟨h1, h2⟩
theorem stCells_take (l : List Sv) (k : Nat) : (stCells l).take (k * 2) = stCells (l.take k) := by
  induction l generalizing k with
  | nil => simp [stCells]
  | cons s l ih =>
    cases k with
    | zero => simp [stCells]
    | succ k =>
      have : stCells (s :: l) = .int .i64 s.1 :: .int .i64 s.2 :: stCells l := rfl
      rw [this, show (k + 1) * 2 = k * 2 + 1 + 1 by omega, List.take_succ_cons, List.take_succ_cons, ih]
      rfl
/-- the first of which something is true; -1: none -/
def idxS (p : Sv → Bool) (l : List Sv) : Int := if l.any p then (l.findIdx p : Int) else -1

end Go.Proofs.Ytjijbkehbeppjaa.SaveM
