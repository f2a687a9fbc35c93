/- Saves numbered one by one, in plain numbers; the objects that stand for them. -/
import Derived.Test.YtjijbkehbeppjaaSaveW7
import Derived.Test.YtjijbkehbeppjaaSaveA
namespace Go.Proofs.Ytjijbkehbeppjaa.Save
open Go.ChangeShapes Go.WideShapes Go.ChangeAt Go.RowKit
open Go.Proofs.Ytjijbkehbeppjaa.SaveM
set_option linter.unusedVariables false
set_option linter.unusedSimpArgs false

def numl (m : Nat) : List Sv := (List.range m).map (fun i : Nat => (((i : Int) + 1, (i : Int) + 1) : Sv))
theorem numl_length (m : Nat) : (numl m).length = m := by simp [numl]
theorem numl_succ (m : Nat) : numl (m + 1) = numl m ++ [((m : Int) + 1, (m : Int) + 1)] := by simp [numl, List.range_succ]
theorem numl_at {i m : Nat} (h : i < m) : (numl m)[i]? = some ((i : Int) + 1, (i : Int) + 1) := by simp [numl, h]
theorem numl_take {j m : Nat} (h : j ≤ m) : (numl m).take j = numl j := by
  unfold numl
  rw [← List.map_take, List.take_range, Nat.min_eq_left h]
theorem atS_num (i j : Nat) : atS 10 ((i : Int) + 1) (numl j) = if i < j then (i : Int) else -1 := by
  unfold atS
  rw [if_pos rfl]
  unfold idxS
  by_cases h : i < j
  · have hi : i < (numl j).length := by rw [numl_length]; exact h
    have e : ∀ k (hk : k < (numl j).length), (numl j)[k] = ((k : Int) + 1, (k : Int) + 1) := fun k hk => by simp [numl]
    have ha : (numl j).any (fun s => s.1 == (i : Int) + 1) = true := List.any_eq_true.2 ⟨_, List.getElem_mem hi, by rw [e]; simp⟩
    rw [if_pos ha, if_pos h]
    congr 1
    rw [List.findIdx_eq hi]
    refine ⟨by rw [e]; simp, fun k hk => ?_⟩
    rw [e k (by omega)]
    simp
    omega
  · have ha : (numl j).any (fun s => s.1 == (i : Int) + 1) = false := by
      rw [List.any_eq_false]
      intro s hs
      simp only [numl, List.mem_map, List.mem_range] at hs
      obtain ⟨k, hk, rfl⟩ := hs
      simp
      omega
    rw [ha, if_neg h]
    rfl
def objN (i : Nat) : List Value := [.int .i64 10, .bool false, .int .i64 0, .int .i64 ((i : Int) + 1), .string ⟨#[]⟩, .int .i64 0, .int .i64 0, .int .i64 0]
def objL (m : Nat) : List Value := (List.range m).flatMap objN
theorem objL_succ (m : Nat) : objL (m + 1) = objL m ++ objN m := by simp [objL, List.range_succ]
theorem objL_length (m : Nat) : (objL m).length = m * 8 := by
  induction m with
  | zero => rfl
  | succ m ih => rw [objL_succ, List.length_append, ih]; simp [objN]; omega
theorem objL_at : ∀ (m i r : Nat), i < m → r < 8 → (objL m)[i * 8 + r]? = (objN i)[r]?
  | 0, i, r, h, _ => absurd h (Nat.not_lt_zero _)
  | m + 1, i, r, h, hr => by
    rw [objL_succ]
    by_cases h' : i < m
    · rw [List.getElem?_append_left (by rw [objL_length]; omega), objL_at m i r h' hr]
    · obtain rfl : i = m := by omega
      rw [List.getElem?_append_right (by rw [objL_length]; omega), objL_length, show i * 8 + r - i * 8 = r by omega]
theorem objN_one (i : Nat) : ∀ u ∈ objN i, u.oneCell' = true := by
  intro u hu
  simp only [objN, List.mem_cons, List.not_mem_nil, or_false] at hu
  rcases hu with rfl | rfl | rfl | rfl | rfl | rfl | rfl | rfl <;> rfl
theorem infoObj : (Try.prog.info? 30).map (fun i => (i.zero, i.size, i.bytes)) = some (some (.agg #[.int .i64 0, .bool false, .int .i64 0, .int .i64 0, .string ⟨#[]⟩, .int .i64 0, .int .i64 0, .int .i64 0]), 8, 72) := by kernel_rfl

end Go.Proofs.Ytjijbkehbeppjaa.Save
