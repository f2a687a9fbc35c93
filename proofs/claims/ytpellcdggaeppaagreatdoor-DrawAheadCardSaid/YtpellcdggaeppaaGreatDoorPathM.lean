/- Paths in plain numbers: what the functions of package path compute. No program in sight; no condition. -/
import Derived.Test.YtpellcdggaeppaaGreatDoorFixM
import Derived.WalkKit
namespace Go.Proofs.YtpellcdggaeppaaGreatDoor.PathM
open Go.Proofs.YtpellcdggaeppaaGreatDoor.FixM (fits)

abbrev Pt := Int × Int
def fitsP (p : Pt) : Bool := fits p.1 && fits p.2
/-- a segment -/
structure Seg where
  k : Int
  a : Pt
  b : Pt
  c : Pt
deriving DecidableEq
def Seg.cells (s : Seg) : List Value := [.int .i64 s.k, .int .i64 s.a.1, .int .i64 s.a.2, .int .i64 s.b.1, .int .i64 s.b.2, .int .i64 s.c.1, .int .i64 s.c.2]
def segCells (l : List Seg) : List Value := l.flatMap Seg.cells
theorem segCells_length (l : List Seg) : (segCells l).length = l.length * 7 := by
  induction l with
  | nil => rfl
  | cons s l ih => simp only [segCells, List.flatMap_cons, List.length_append] at *; rw [ih]; simp [Seg.cells]; omega
theorem segCells_append (l m : List Seg) : segCells (l ++ m) = segCells l ++ segCells m := by simp [segCells]
theorem segCells_one (l : List Seg) : ∀ u ∈ segCells l, u.oneCell' = true := by
  intro u hu
  simp only [segCells, List.mem_flatMap] at hu
  obtain ⟨s, _, hs⟩ := hu
  simp only [Seg.cells, List.mem_cons, List.not_mem_nil, or_false] at hs
  rcases hs with rfl | rfl | rfl | rfl | rfl | rfl | rfl <;> rfl
/-- a cell of a segment -/
theorem segCells_at : ∀ (l : List Seg) (i : Nat) (s : Seg) (j : Nat), l[i]? = some s → j < 7 → (segCells l)[i * 7 + j]? = s.cells[j]?
  | [], i, s, j, h, _ => by simp at h
  | t :: l, 0, s, j, h, hj => by
    simp only [List.getElem?_cons_zero, Option.some.injEq] at h
    subst h
    simp only [segCells, List.flatMap_cons]
    rw [List.getElem?_append_left (by simp [Seg.cells]; omega)]
    simp
  | t :: l, i + 1, s, j, h, hj => by
    simp only [List.getElem?_cons_succ] at h
    have := segCells_at l i s j h hj
    simp only [segCells, List.flatMap_cons] at *
    rw [List.getElem?_append_right (by simp [Seg.cells]; omega), ← this]
    congr 1
    simp [Seg.cells]
    omega
/-- the kind of the last one -/
def lastK (l : List Seg) : Int := match l.getLast? with | none => 0 | some s => s.k

/-- the first of which something is true; -1: none -/
def idx (p : Pt → Bool) : List Pt → Int
  | [] => -1
  | x :: l => if p x then 0 else if idx p l = -1 then -1 else idx p l + 1
def idxF (p : Pt → Bool) (l : List Pt) : Int := if l.any p then (l.findIdx p : Int) else -1
theorem idxF_neg (p : Pt → Bool) (l : List Pt) : decide (0 ≤ idxF p l) = l.any p := by
  unfold idxF
  split
  · rename_i h; rw [h]; exact decide_eq_true (by omega)
  · rename_i h; rw [decide_eq_false (by omega)]; simpa using h

/-- a path's state -/
structure St where
  most : Int
  l : List Seg
  s : Pt
  n : Pt
def St.add (t : St) (to : Pt) (more : List Seg) : St × Int :=
  if t.most < (t.l.length : Int) + more.length then (t, 9) else ({ t with l := t.l ++ more, n := to }, 0)
def Z : Pt := (0, 0)
def St.draw (t : St) (s : Seg) (to : Pt) : St × Int :=
  if lastK t.l = 0 then (t, 10) else if lastK t.l = 4 then t.add to [⟨1, t.n, Z, Z⟩, s] else t.add to [s]
def St.line (t : St) (a : Pt) : St × Int := if fitsP a then t.draw ⟨2, a, Z, Z⟩ a else (t, 11)
def St.curve (t : St) (a b c : Pt) : St × Int := if fitsP a && (fitsP b && fitsP c) then t.draw ⟨3, a, b, c⟩ c else (t, 11)
def St.close (t : St) : St × Int := if lastK t.l = 0 then (t, 0) else if lastK t.l = 4 then (t, 0) else t.add t.s [⟨4, Z, Z, Z⟩]
def St.move (t : St) (a : Pt) : St × Int :=
  if fitsP a then
    if lastK t.l = 1 then ({ t with l := t.l.dropLast ++ [⟨1, a, Z, Z⟩], s := a, n := a }, 0)
    else if (t.add a [⟨1, a, Z, Z⟩]).2 = 0 then ({ (t.add a [⟨1, a, Z, Z⟩]).1 with s := a }, 0) else t.add a [⟨1, a, Z, Z⟩]
  else (t, 11)

end Go.Proofs.YtpellcdggaeppaaGreatDoor.PathM
