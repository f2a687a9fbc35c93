/- Matrices in plain integers: what the functions of package mat and of its reference compute. No program in sight; no condition. -/
import Derived.Test.YtoflafbhfoncmaaDoorSumM
namespace Go.Proofs.YtoflafbhfoncmaaDoor.MatM
open Go.Proofs.YtoflafbhfoncmaaDoor.FixM

/-- the first error stays -/
def keep (e f : Int) : Int := if e = 0 then f else e
theorem keep_zero (e f : Int) : keep e f = 0 ↔ e = 0 ∧ f = 0 := by unfold keep; split <;> omega
theorem keep_assoc (a b c : Int) : keep (keep a b) c = keep a (keep b c) := by by_cases h : a = 0 <;> simp [keep, h]

/-- a x + c y, and more: the value, and the first error -/
def two (e a x c y : Int) (more : List Int) : Int × Int :=
  ((sum ((mul a x).1 :: (mul c y).1 :: more)).1, keep (keep (keep e (mul a x).2) (mul c y).2) (sum ((mul a x).1 :: (mul c y).1 :: more)).2)

/-- a point and its error, as handed back -/
def pt (x y e : Int) : (Int × Int) × Int := if e = 0 then ((x, y), 0) else ((0, 0), e)

def apply (m0 m1 m2 m3 m4 m5 x y : Int) : (Int × Int) × Int :=
  let p := two 0 m0 x m2 y [m4]
  let q := two p.2 m1 x m3 y [m5]
  pt p.1 q.1 q.2
def delta (m0 m1 m2 m3 x y : Int) : (Int × Int) × Int :=
  let p := two 0 m0 x m2 y []
  let q := two p.2 m1 x m3 y []
  pt p.1 q.1 q.2

def det (e m0 m1 m2 m3 : Int) : Int × Int :=
  ((sub (mul m0 m3).1 (mul m1 m2).1).1, keep (keep (keep e (mul m0 m3).2) (mul m1 m2).2) (sub (mul m0 m3).1 (mul m1 m2).1).2)

theorem within_fits (n : Int) : fits (within n).1 = true := by
  unfold within
  split
  · assumption
  · decide
theorem mul_fits (a b : Int) : fits (mul a b).1 = true := by
  unfold mul
  split
  · exact within_fits _
  · decide
theorem add_fits (a b : Int) : fits (add a b).1 = true := by
  unfold add
  split
  · exact within_fits _
  · decide
theorem sub_fits (a b : Int) : fits (sub a b).1 = true := by
  unfold sub
  split
  · exact within_fits _
  · decide
theorem zero_add' {p : Int} (h : fits p = true) : add 0 p = (p, 0) := by
  have h0 : fits 0 = true := by decide
  simp [add, within, h0, h]
theorem add_err' (t z : Int) : (add t z).2 ≠ 0 → add t z = (0, (add t z).2) := fun h => Prod.ext (add_err t z h) rfl

theorem sum2 {p q : Int} (hp : fits p = true) : sum [p, q] = add p q := by
  unfold sum
  simp only [sumF, zero_add' hp, if_true]
  by_cases h : (add p q).2 = 0
  · rw [if_pos h]; exact Prod.ext rfl h.symm
  · rw [if_neg h]; exact (add_err' _ _ h).symm
theorem sum3 {p q l : Int} (hp : fits p = true) : sum [p, q, l] = if (add p q).2 = 0 then add (add p q).1 l else (0, (add p q).2) := by
  unfold sum
  simp only [sumF, zero_add' hp, if_true]
  by_cases h : (add p q).2 = 0
  · rw [if_pos h, if_pos h]
    by_cases h2 : (add (add p q).1 l).2 = 0
    · rw [if_pos h2]; exact Prod.ext rfl h2.symm
    · rw [if_neg h2]; exact (add_err' _ _ h2).symm
  · rw [if_neg h, if_neg h]

/-- the reference's way: sum by sum -/
def two3 (e a x c y l : Int) : Int × Int :=
  let r := add (mul a x).1 (mul c y).1
  let t := add r.1 l
  (t.1, keep (keep (keep (keep e (mul a x).2) (mul c y).2) r.2) t.2)
def two2 (e a x c y : Int) : Int × Int :=
  let r := add 0 (mul a x).1
  let t := add r.1 (mul c y).1
  (t.1, keep (keep (keep (keep e (mul a x).2) (mul c y).2) r.2) t.2)

theorem keep0 (z : Int) : keep 0 z = z := by simp [keep]
theorem two3_err (e a x c y l : Int) : (two3 e a x c y l).2 = (two e a x c y [l]).2 := by
  unfold two3 two
  rw [sum3 (mul_fits a x)]
  by_cases h : (add (mul a x).1 (mul c y).1).2 = 0
  · rw [if_pos h]
    show keep (keep (keep (keep e (mul a x).2) (mul c y).2) (add (mul a x).1 (mul c y).1).2) _ = _
    rw [h, keep_assoc _ 0, keep0]
  · rw [if_neg h]
    show keep (keep (keep (keep e (mul a x).2) (mul c y).2) (add (mul a x).1 (mul c y).1).2) _ = keep _ (add (mul a x).1 (mul c y).1).2
    rw [keep_assoc _ (add (mul a x).1 (mul c y).1).2]
    congr 1
    unfold keep
    rw [if_neg h]
theorem two3_val (e a x c y l : Int) (h : (two3 e a x c y l).2 = 0) : (two3 e a x c y l).1 = (two e a x c y [l]).1 := by
  unfold two3 two at *
  rw [sum3 (mul_fits a x)]
  simp only [keep_zero] at h
  rw [if_pos h.1.2]
theorem two2_eq (e a x c y : Int) : two2 e a x c y = two e a x c y [] := by
  unfold two2 two
  rw [sum2 (mul_fits a x), zero_add' (mul_fits a x)]
  show (_, keep (keep (keep (keep e (mul a x).2) (mul c y).2) 0) _) = _
  rw [keep_assoc _ 0, keep0]

def applyR (m0 m1 m2 m3 m4 m5 x y : Int) : (Int × Int) × Int :=
  let p := two3 0 m0 x m2 y m4
  let q := two3 p.2 m1 x m3 y m5
  pt p.1 q.1 q.2
def deltaR (m0 m1 m2 m3 x y : Int) : (Int × Int) × Int :=
  let p := two2 0 m0 x m2 y
  let q := two2 p.2 m1 x m3 y
  pt p.1 q.1 q.2
theorem delta_eq (m0 m1 m2 m3 x y : Int) : deltaR m0 m1 m2 m3 x y = delta m0 m1 m2 m3 x y := by
  unfold deltaR delta
  simp only [two2_eq]
theorem two3_start (e a x c y l : Int) : (two3 e a x c y l).2 = keep e (two3 0 a x c y l).2 := by
  unfold two3
  simp only [keep_assoc, keep0]
theorem apply_eq (m0 m1 m2 m3 m4 m5 x y : Int) : applyR m0 m1 m2 m3 m4 m5 x y = apply m0 m1 m2 m3 m4 m5 x y := by
  unfold applyR apply
  simp only []
  rw [two3_err 0 m0 x m2 y m4]
  by_cases h : (two3 (two 0 m0 x m2 y [m4]).2 m1 x m3 y m5).2 = 0
  · have h0 := h
    rw [two3_start, keep_zero] at h
    have h1 : (two3 0 m0 x m2 y m4).2 = 0 := by rw [two3_err]; exact h.1
    rw [two3_val _ _ _ _ _ _ h1, two3_val _ _ _ _ _ _ h0, two3_err]
  · have h2 := h
    rw [two3_err] at h2
    unfold pt
    rw [if_neg h, if_neg h2, two3_err]

end Go.Proofs.YtoflafbhfoncmaaDoor.MatM
