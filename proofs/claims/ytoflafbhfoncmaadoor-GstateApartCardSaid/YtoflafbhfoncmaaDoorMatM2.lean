/- Two matrices, and what leads back, in plain integers. No program in sight; no condition. -/
import Derived.Test.YtoflafbhfoncmaaDoorMatM
namespace Go.Proofs.YtoflafbhfoncmaaDoor.MatM
open Go.Proofs.YtoflafbhfoncmaaDoor.FixM

/-- six numbers -/
structure M6 where
  a : Int
  b : Int
  c : Int
  d : Int
  x : Int
  y : Int
deriving DecidableEq
def none6 : M6 := ⟨0, 0, 0, 0, 0, 0⟩

def concat (A B : M6) : M6 × Int :=
  let u := delta B.a B.b B.c B.d A.a A.b
  if u.2 = 0 then
    let v := delta B.a B.b B.c B.d A.c A.d
    if v.2 = 0 then
      let t := apply B.a B.b B.c B.d B.x B.y A.x A.y
      if t.2 = 0 then (⟨u.1.1, u.1.2, v.1.1, v.1.2, t.1.1, t.1.2⟩, 0) else (none6, t.2)
    else (none6, v.2)
  else (none6, u.2)

/-- the quotients, and the first error of the way there -/
def quots (m : M6) (d : Int) : M6 × Int :=
  let p := sub (mul m.c m.y).1 (mul m.d m.x).1
  let q := sub (mul m.b m.x).1 (mul m.a m.y).1
  (⟨(div m.d d).1, (div (sub 0 m.b).1 d).1, (div (sub 0 m.c).1 d).1, (div m.a d).1, (div p.1 d).1, (div q.1 d).1⟩,
   keep (keep (keep (keep (keep (keep (keep (keep (keep (keep (keep (keep (keep (keep 0 (div m.d d).2) (sub 0 m.b).2) (div (sub 0 m.b).1 d).2) (sub 0 m.c).2) (div (sub 0 m.c).1 d).2) (div m.a d).2)
     (mul m.c m.y).2) (mul m.d m.x).2) p.2) (div p.1 d).2) (mul m.b m.x).2) (mul m.a m.y).2) q.2) (div q.1 d).2)
def invert (m : M6) : M6 × Int :=
  let D := det 0 m.a m.b m.c m.d
  if D.2 = 0 then (if D.1 = 0 then (none6, 18) else if (quots m D.1).2 = 0 then ((quots m D.1).1, 0) else (none6, (quots m D.1).2)) else (none6, D.2)

def scale (m0 m1 m2 m3 : Int) : Int × Int :=
  let D := det 0 m0 m1 m2 m3
  if D.2 = 0 then (if D.1 < 0 then (if (sub 0 D.1).2 = 0 then sqrt (sub 0 D.1).1 else (0, (sub 0 D.1).2)) else sqrt D.1) else (0, D.2)

theorem sqrt_ok {n : Int} (h : fits n = true) (h0 : 0 ≤ n) : sqrt n = ((sqrt n).1, 0) := by
  unfold sqrt
  simp [h, h0]

/-- the program's way: the root is taken behind an error too -/
theorem scale_walk (m0 m1 m2 m3 : Int) :
    scale m0 m1 m2 m3 =
      if (det 0 m0 m1 m2 m3).1 < 0 then
        (if keep (keep (det 0 m0 m1 m2 m3).2 (sub 0 (det 0 m0 m1 m2 m3).1).2) (sqrt (max (sub 0 (det 0 m0 m1 m2 m3).1).1 0)).2 = 0 then ((sqrt (max (sub 0 (det 0 m0 m1 m2 m3).1).1 0)).1, 0)
          else (0, keep (keep (det 0 m0 m1 m2 m3).2 (sub 0 (det 0 m0 m1 m2 m3).1).2) (sqrt (max (sub 0 (det 0 m0 m1 m2 m3).1).1 0)).2))
      else
        (if keep (det 0 m0 m1 m2 m3).2 (sqrt (max (det 0 m0 m1 m2 m3).1 0)).2 = 0 then ((sqrt (max (det 0 m0 m1 m2 m3).1 0)).1, 0)
          else (0, keep (det 0 m0 m1 m2 m3).2 (sqrt (max (det 0 m0 m1 m2 m3).1 0)).2)) := by
  unfold scale
  have hfd : fits (det 0 m0 m1 m2 m3).1 = true := by unfold det; exact sub_fits _ _
  obtain ⟨d, e, hD⟩ : ∃ d e, det 0 m0 m1 m2 m3 = (d, e) := ⟨_, _, rfl⟩
  rw [hD] at hfd ⊢
  simp only at hfd ⊢
  have hfs : fits (sub 0 d).1 = true := sub_fits _ _
  have hmax : ∀ n : Int, fits n = true → fits (max n 0) = true := fun n h => by
    rcases Int.le_total n 0 with h1 | h1
    · rw [Int.max_eq_right h1]; decide
    · rw [Int.max_eq_left h1]; exact h
  have k0 : ∀ z, keep z 0 = z := fun z => by unfold keep; split <;> simp_all
  have q1 : (sqrt (max (sub 0 d).1 0)).2 = 0 := by rw [sqrt_ok (hmax _ hfs) (Int.le_max_right _ _)]
  have q2 : (sqrt (max d 0)).2 = 0 := by rw [sqrt_ok (hmax _ hfd) (Int.le_max_right _ _)]
  rw [q1, q2, k0, k0]
  by_cases hd : d < 0
  · rw [if_pos hd, if_pos hd]
    by_cases he : e = 0
    · rw [if_pos he]
      subst he
      rw [keep0]
      by_cases hf : (sub 0 d).2 = 0
      · rw [if_pos hf, if_pos hf]
        have hs : 0 ≤ (sub 0 d).1 := by
          unfold sub FixM.within at hf ⊢
          revert hf
          split
          · split
            · intro _; simp; omega
            · intro _; simp
          · intro _; simp
        rw [Int.max_eq_left hs]
        exact sqrt_ok hfs hs
      · rw [if_neg hf, if_neg hf]
    · rw [if_neg he, show keep e (sub 0 d).2 = e by simp [keep, he], if_neg he]
  · rw [if_neg hd, if_neg hd]
    by_cases he : e = 0
    · rw [if_pos he, if_pos he, Int.max_eq_left (by omega)]
      exact sqrt_ok hfd (by omega)
    · rw [if_neg he, if_neg he]

end Go.Proofs.YtoflafbhfoncmaaDoor.MatM
