/- Sums of many numbers, in plain integers. No program in sight; no condition. Matrices in plain integers: what the functions of package mat and of its reference compute. No program in sight; no condition. Two matrices, and what leads back, in plain integers. No program in sight; no condition. -/
import Derived.Test.YtpellcdggaeppaaGreatDoorFixM
section
namespace Go.Proofs.YtpellcdggaeppaaGreatDoor.FixM

/-! sums of many -/
def sumF : Int → List Int → Int × Int
  | t, [] => (t, 0)
  | t, z :: zs => if (add t z).2 = 0 then sumF (add t z).1 zs else (0, (add t z).2)
def sum (zs : List Int) : Int × Int := sumF 0 zs

theorem sumF_append (zs : List Int) (z : Int) : ∀ t, sumF t (zs ++ [z]) = if (sumF t zs).2 = 0 then (if (add (sumF t zs).1 z).2 = 0 then (add (sumF t zs).1 z) else (0, (add (sumF t zs).1 z).2)) else sumF t zs := by
  induction zs with
  | nil =>
    intro t
    by_cases h : (add t z).2 = 0
    · simp only [List.nil_append, sumF, if_true, h]
      exact Prod.ext rfl h.symm
    · simp only [List.nil_append, sumF, if_true, h, if_false]
  | cons y ys ih =>
    intro t
    by_cases h : (add t y).2 = 0
    · simp only [List.cons_append, sumF, h, if_true]
      exact ih _
    · simp only [List.cons_append, sumF, h, if_false]
/-- an error stays -/
theorem sumF_stays (zs ys : List Int) : ∀ t, (sumF t zs).2 ≠ 0 → sumF t (zs ++ ys) = sumF t zs := by
  induction zs with
  | nil => intro t h; exact absurd rfl h
  | cons y zs ih =>
    intro t h
    simp only [List.cons_append, sumF] at *
    split
    · rename_i h2; rw [if_pos h2] at h; exact ih _ h
    · rfl
theorem sumF_err (zs : List Int) : ∀ t, (sumF t zs).2 ≠ 0 → (sumF t zs).1 = 0 := by
  induction zs with
  | nil => intro t h; exact absurd rfl h
  | cons y zs ih =>
    intro t h
    simp only [sumF] at *
    split
    · rename_i h2; rw [if_pos h2] at h; exact ih _ h
    · rfl

theorem within_err (n : Int) (h : (within n).2 ≠ 0) : (within n).1 = 0 := by
  by_cases hf : fits n = true
  · simp [within, hf] at h
  · simp [within, hf]
theorem add_err (t z : Int) (h : (add t z).2 ≠ 0) : (add t z).1 = 0 := by
  by_cases hf : (fits t && fits z) = true
  · simp only [add, hf, if_true] at *
    exact within_err _ h
  · simp [add, hf]

end Go.Proofs.YtpellcdggaeppaaGreatDoor.FixM
end

section
namespace Go.Proofs.YtpellcdggaeppaaGreatDoor.MatM
open Go.Proofs.YtpellcdggaeppaaGreatDoor.FixM

/-- the first error stays -/
def keep (e f : Int) : Int := if e = 0 then f else e
theorem keep_zero (e f : Int) : keep e f = 0 ↔ e = 0 ∧ f = 0 := by unfold keep; split <;> omega
theorem keep_assoc (a b c : Int) : keep (keep a b) c = keep a (keep b c) := by by_cases h : a = 0 <;> simp [keep, h]

/-- a x + c y, and more: the value, and the first error -/
def two (e a x c y : Int) (more : List Int) : Int × Int :=
  ((sum ((mul a x).1 :: (mul c y).1 :: more)).1, keep (keep (keep e (mul a x).2) (mul c y).2) (sum ((mul a x).1 :: (mul c y).1 :: more)).2)

/-- a point and its error, as handed back -/
def pt (x y e : Int) : (Int × Int) × Int := if e = 0 then ((x, y), 0) else ((0, 0), e)

def apply (m0 m1 m2 m3 m4 m5 x y : Int) : (Int × Int) × Int :=
  let p := two 0 m0 x m2 y [m4]
  let q := two p.2 m1 x m3 y [m5]
  pt p.1 q.1 q.2
def delta (m0 m1 m2 m3 x y : Int) : (Int × Int) × Int :=
  let p := two 0 m0 x m2 y []
  let q := two p.2 m1 x m3 y []
  pt p.1 q.1 q.2

def det (e m0 m1 m2 m3 : Int) : Int × Int :=
  ((sub (mul m0 m3).1 (mul m1 m2).1).1, keep (keep (keep e (mul m0 m3).2) (mul m1 m2).2) (sub (mul m0 m3).1 (mul m1 m2).1).2)

theorem within_fits (n : Int) : fits (within n).1 = true := by
  unfold within
  split
  · assumption
  · decide
theorem mul_fits (a b : Int) : fits (mul a b).1 = true := by
  unfold mul
  split
  · exact within_fits _
  · decide
theorem add_fits (a b : Int) : fits (add a b).1 = true := by
  unfold add
  split
  · exact within_fits _
  · decide
theorem sub_fits (a b : Int) : fits (sub a b).1 = true := by
  unfold sub
  split
  · exact within_fits _
  · decide
theorem zero_add' {p : Int} (h : fits p = true) : add 0 p = (p, 0) := by
  have h0 : fits 0 = true := by decide
  simp [add, within, h0, h]
theorem add_err' (t z : Int) : (add t z).2 ≠ 0 → add t z = (0, (add t z).2) := fun h => Prod.ext (add_err t z h) rfl

theorem sum2 {p q : Int} (hp : fits p = true) : sum [p, q] = add p q := by
  unfold sum
  simp only [sumF, zero_add' hp, if_true]
  by_cases h : (add p q).2 = 0
  · rw [if_pos h]; exact Prod.ext rfl h.symm
  · rw [if_neg h]; exact (add_err' _ _ h).symm
theorem sum3 {p q l : Int} (hp : fits p = true) : sum [p, q, l] = if (add p q).2 = 0 then add (add p q).1 l else (0, (add p q).2) := by
  unfold sum
  simp only [sumF, zero_add' hp, if_true]
  by_cases h : (add p q).2 = 0
  · rw [if_pos h, if_pos h]
    by_cases h2 : (add (add p q).1 l).2 = 0
    · rw [if_pos h2]; exact Prod.ext rfl h2.symm
    · rw [if_neg h2]; exact (add_err' _ _ h2).symm
  · rw [if_neg h, if_neg h]

/-- the reference's way: sum by sum -/
def two3 (e a x c y l : Int) : Int × Int :=
  let r := add (mul a x).1 (mul c y).1
  let t := add r.1 l
  (t.1, keep (keep (keep (keep e (mul a x).2) (mul c y).2) r.2) t.2)
def two2 (e a x c y : Int) : Int × Int :=
  let r := add 0 (mul a x).1
  let t := add r.1 (mul c y).1
  (t.1, keep (keep (keep (keep e (mul a x).2) (mul c y).2) r.2) t.2)

theorem keep0 (z : Int) : keep 0 z = z := by simp [keep]
theorem two3_err (e a x c y l : Int) : (two3 e a x c y l).2 = (two e a x c y [l]).2 := by
  unfold two3 two
  rw [sum3 (mul_fits a x)]
  by_cases h : (add (mul a x).1 (mul c y).1).2 = 0
  · rw [if_pos h]
    show keep (keep (keep (keep e (mul a x).2) (mul c y).2) (add (mul a x).1 (mul c y).1).2) _ = _
    rw [h, keep_assoc _ 0, keep0]
  · rw [if_neg h]
    show keep (keep (keep (keep e (mul a x).2) (mul c y).2) (add (mul a x).1 (mul c y).1).2) _ = keep _ (add (mul a x).1 (mul c y).1).2
    rw [keep_assoc _ (add (mul a x).1 (mul c y).1).2]
    congr 1
    unfold keep
    rw [if_neg h]
theorem two3_val (e a x c y l : Int) (h : (two3 e a x c y l).2 = 0) : (two3 e a x c y l).1 = (two e a x c y [l]).1 := by
  unfold two3 two at *
  rw [sum3 (mul_fits a x)]
  simp only [keep_zero] at h
  rw [if_pos h.1.2]
theorem two2_eq (e a x c y : Int) : two2 e a x c y = two e a x c y [] := by
  unfold two2 two
  rw [sum2 (mul_fits a x), zero_add' (mul_fits a x)]
  show (_, keep (keep (keep (keep e (mul a x).2) (mul c y).2) 0) _) = _
  rw [keep_assoc _ 0, keep0]

def applyR (m0 m1 m2 m3 m4 m5 x y : Int) : (Int × Int) × Int :=
  let p := two3 0 m0 x m2 y m4
  let q := two3 p.2 m1 x m3 y m5
  pt p.1 q.1 q.2
def deltaR (m0 m1 m2 m3 x y : Int) : (Int × Int) × Int :=
  let p := two2 0 m0 x m2 y
  let q := two2 p.2 m1 x m3 y
  pt p.1 q.1 q.2
theorem delta_eq (m0 m1 m2 m3 x y : Int) : deltaR m0 m1 m2 m3 x y = delta m0 m1 m2 m3 x y := by
  unfold deltaR delta
  simp only [two2_eq]
theorem two3_start (e a x c y l : Int) : (two3 e a x c y l).2 = keep e (two3 0 a x c y l).2 := by
  unfold two3
  simp only [keep_assoc, keep0]
theorem apply_eq (m0 m1 m2 m3 m4 m5 x y : Int) : applyR m0 m1 m2 m3 m4 m5 x y = apply m0 m1 m2 m3 m4 m5 x y := by
  unfold applyR apply
  simp only []
  rw [two3_err 0 m0 x m2 y m4]
  by_cases h : (two3 (two 0 m0 x m2 y [m4]).2 m1 x m3 y m5).2 = 0
  · have h0 := h
    rw [two3_start, keep_zero] at h
    have h1 : (two3 0 m0 x m2 y m4).2 = 0 := by rw [two3_err]; exact h.1
    rw [two3_val _ _ _ _ _ _ h1, two3_val _ _ _ _ _ _ h0, two3_err]
  · have h2 := h
    rw [two3_err] at h2
    unfold pt
    rw [if_neg h, if_neg h2, two3_err]

end Go.Proofs.YtpellcdggaeppaaGreatDoor.MatM
end

section
namespace Go.Proofs.YtpellcdggaeppaaGreatDoor.MatM
open Go.Proofs.YtpellcdggaeppaaGreatDoor.FixM

/-- six numbers -/
structure M6 where
  a : Int
  b : Int
  c : Int
  d : Int
  x : Int
  y : Int
deriving DecidableEq
def none6 : M6 := ⟨0, 0, 0, 0, 0, 0⟩

def concat (A B : M6) : M6 × Int :=
  let u := delta B.a B.b B.c B.d A.a A.b
  if u.2 = 0 then
    let v := delta B.a B.b B.c B.d A.c A.d
    if v.2 = 0 then
      let t := apply B.a B.b B.c B.d B.x B.y A.x A.y
      if t.2 = 0 then (⟨u.1.1, u.1.2, v.1.1, v.1.2, t.1.1, t.1.2⟩, 0) else (none6, t.2)
    else (none6, v.2)
  else (none6, u.2)

/-- the quotients, and the first error of the way there -/
def quots (m : M6) (d : Int) : M6 × Int :=
  let p := sub (mul m.c m.y).1 (mul m.d m.x).1
  let q := sub (mul m.b m.x).1 (mul m.a m.y).1
  (⟨(div m.d d).1, (div (sub 0 m.b).1 d).1, (div (sub 0 m.c).1 d).1, (div m.a d).1, (div p.1 d).1, (div q.1 d).1⟩,
   keep (keep (keep (keep (keep (keep (keep (keep (keep (keep (keep (keep (keep (keep 0 (div m.d d).2) (sub 0 m.b).2) (div (sub 0 m.b).1 d).2) (sub 0 m.c).2) (div (sub 0 m.c).1 d).2) (div m.a d).2)
     (mul m.c m.y).2) (mul m.d m.x).2) p.2) (div p.1 d).2) (mul m.b m.x).2) (mul m.a m.y).2) q.2) (div q.1 d).2)
def invert (m : M6) : M6 × Int :=
  let D := det 0 m.a m.b m.c m.d
  if D.2 = 0 then (if D.1 = 0 then (none6, 18) else if (quots m D.1).2 = 0 then ((quots m D.1).1, 0) else (none6, (quots m D.1).2)) else (none6, D.2)

def scale (m0 m1 m2 m3 : Int) : Int × Int :=
  let D := det 0 m0 m1 m2 m3
  if D.2 = 0 then (if D.1 < 0 then (if (sub 0 D.1).2 = 0 then sqrt (sub 0 D.1).1 else (0, (sub 0 D.1).2)) else sqrt D.1) else (0, D.2)

theorem sqrt_ok {n : Int} (h : fits n = true) (h0 : 0 ≤ n) : sqrt n = ((sqrt n).1, 0) := by
  unfold sqrt
  simp [h, h0]

/-- the program's way: the root is taken behind an error too -/
theorem scale_walk (m0 m1 m2 m3 : Int) :
    scale m0 m1 m2 m3 =
      if (det 0 m0 m1 m2 m3).1 < 0 then
        (if keep (keep (det 0 m0 m1 m2 m3).2 (sub 0 (det 0 m0 m1 m2 m3).1).2) (sqrt (max (sub 0 (det 0 m0 m1 m2 m3).1).1 0)).2 = 0 then ((sqrt (max (sub 0 (det 0 m0 m1 m2 m3).1).1 0)).1, 0)
          else (0, keep (keep (det 0 m0 m1 m2 m3).2 (sub 0 (det 0 m0 m1 m2 m3).1).2) (sqrt (max (sub 0 (det 0 m0 m1 m2 m3).1).1 0)).2))
      else
        (if keep (det 0 m0 m1 m2 m3).2 (sqrt (max (det 0 m0 m1 m2 m3).1 0)).2 = 0 then ((sqrt (max (det 0 m0 m1 m2 m3).1 0)).1, 0)
          else (0, keep (det 0 m0 m1 m2 m3).2 (sqrt (max (det 0 m0 m1 m2 m3).1 0)).2)) := by
  unfold scale
  have hfd : fits (det 0 m0 m1 m2 m3).1 = true := by unfold det; exact sub_fits _ _
  obtain ⟨d, e, hD⟩ : ∃ d e, det 0 m0 m1 m2 m3 = (d, e) := ⟨_, _, rfl⟩
  rw [hD] at hfd ⊢
  simp only at hfd ⊢
  have hfs : fits (sub 0 d).1 = true := sub_fits _ _
  have hmax : ∀ n : Int, fits n = true → fits (max n 0) = true := fun n h => by
    rcases Int.le_total n 0 with h1 | h1
    · rw [Int.max_eq_right h1]; decide
    · rw [Int.max_eq_left h1]; exact h
  have k0 : ∀ z, keep z 0 = z := fun z => by unfold keep; split <;> simp_all
  have q1 : (sqrt (max (sub 0 d).1 0)).2 = 0 := by rw [sqrt_ok (hmax _ hfs) (Int.le_max_right _ _)]
  have q2 : (sqrt (max d 0)).2 = 0 := by rw [sqrt_ok (hmax _ hfd) (Int.le_max_right _ _)]
  rw [q1, q2, k0, k0]
  by_cases hd : d < 0
  · rw [if_pos hd, if_pos hd]
    by_cases he : e = 0
    · rw [if_pos he]
      subst he
      rw [keep0]
      by_cases hf : (sub 0 d).2 = 0
      · rw [if_pos hf, if_pos hf]
        have hs : 0 ≤ (sub 0 d).1 := by
          unfold sub FixM.within at hf ⊢
          revert hf
          split
          · split
            · intro _; simp; omega
            · intro _; simp
          · intro _; simp
        rw [Int.max_eq_left hs]
        exact sqrt_ok hfs hs
      · rw [if_neg hf, if_neg hf]
    · rw [if_neg he, show keep e (sub 0 d).2 = e by simp [keep, he], if_neg he]
  · rw [if_neg hd, if_neg hd]
    by_cases he : e = 0
    · rw [if_pos he, if_pos he, Int.max_eq_left (by omega)]
      exact sqrt_ok hfd (by omega)
    · rw [if_neg he, if_neg he]

end Go.Proofs.YtpellcdggaeppaaGreatDoor.MatM
end
