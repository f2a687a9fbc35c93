/- Two matrices, and what leads back, in plain integers. No program in sight; no condition. -/
import Derived.Test.YtonmakmnencihaaMatM
namespace Go.Proofs.Ytonmakmnencihaa.MatM
open Go.Proofs.Ytonmakmnencihaa.FixM

/-- six numbers -/
structure M6 where
  a : Int
  b : Int
  c : Int
  d : Int
  x : Int
  y : Int
deriving DecidableEq
def none6 : M6 := ⟨0, 0, 0, 0, 0, 0⟩

def concat (A B : M6) : M6 × Int :=
  let u := delta B.a B.b B.c B.d A.a A.b
  if u.2 = 0 then
    let v := delta B.a B.b B.c B.d A.c A.d
    if v.2 = 0 then
      let t := apply B.a B.b B.c B.d B.x B.y A.x A.y
      if t.2 = 0 then (⟨u.1.1, u.1.2, v.1.1, v.1.2, t.1.1, t.1.2⟩, 0) else (none6, t.2)
    else (none6, v.2)
  else (none6, u.2)

/-- the quotients, and the first error of the way there -/
def quots (m : M6) (d : Int) : M6 × Int :=
  let p := sub (mul m.c m.y).1 (mul m.d m.x).1
  let q := sub (mul m.b m.x).1 (mul m.a m.y).1
  (⟨(div m.d d).1, (div (sub 0 m.b).1 d).1, (div (sub 0 m.c).1 d).1, (div m.a d).1, (div p.1 d).1, (div q.1 d).1⟩,
   keep (keep (keep (keep (keep (keep (keep (keep (keep (keep (keep (keep (keep (keep 0 (div m.d d).2) (sub 0 m.b).2) (div (sub 0 m.b).1 d).2) (sub 0 m.c).2) (div (sub 0 m.c).1 d).2) (div m.a d).2)
     (mul m.c m.y).2) (mul m.d m.x).2) p.2) (div p.1 d).2) (mul m.b m.x).2) (mul m.a m.y).2) q.2) (div q.1 d).2)
def invert (m : M6) : M6 × Int :=
  let D := det 0 m.a m.b m.c m.d
  if D.2 = 0 then (if D.1 = 0 then (none6, 18) else if (quots m D.1).2 = 0 then ((quots m D.1).1, 0) else (none6, (quots m D.1).2)) else (none6, D.2)

def scale (m0 m1 m2 m3 : Int) : Int × Int :=
  let D := det 0 m0 m1 m2 m3
  if D.2 = 0 then (if D.1 < 0 then (if (sub 0 D.1).2 = 0 then sqrt (sub 0 D.1).1 else (0, (sub 0 D.1).2)) else sqrt D.1) else (0, D.2)

theorem sqrt_ok {n : Int} (h : fits n = true) (h0 : 0 ≤ n) : sqrt n = ((sqrt n).1, 0) := by
  unfold sqrt
  simp [h, h0]

end Go.Proofs.Ytonmakmnencihaa.MatM
