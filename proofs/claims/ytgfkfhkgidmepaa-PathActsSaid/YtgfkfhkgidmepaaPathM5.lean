/- A path's start and its place, as functions of its segments; what a call leaves is again of this form. No program in sight; no condition. -/
import Derived.Test.YtgfkfhkgidmepaaPathM3
namespace Go.Proofs.Ytgfkfhkgidmepaa.PathM

def startOf (l : List Seg) : Pt := l.foldl (fun s x => if x.k = 1 then x.a else s) Z
theorem startOf_append (l : List Seg) (s : Seg) : startOf (l ++ [s]) = if s.k = 1 then s.a else startOf l := by simp [startOf]
def curOf (l : List Seg) : Pt := match l.getLast? with | none => Z | some s => if s.k = 4 then startOf l else if s.k = 3 then s.c else s.a
theorem curOf_append (l : List Seg) (s : Seg) : curOf (l ++ [s]) = if s.k = 4 then startOf l else if s.k = 3 then s.c else s.a := by
  unfold curOf
  rw [List.getLast?_concat]
  by_cases h : s.k = 4
  · simp only [h, if_true, startOf_append]
    simp
  · simp only [if_neg h]
def stOf (most : Int) (l : List Seg) : St := ⟨most, l, startOf l, curOf l⟩
/-- the list that a call leaves, and its error -/
def lMove (most : Int) (l : List Seg) (a : Pt) : List Seg × Int := ((St.move (stOf most l) a).1.l, (St.move (stOf most l) a).2)
def lLine (most : Int) (l : List Seg) (a : Pt) : List Seg × Int := ((St.line (stOf most l) a).1.l, (St.line (stOf most l) a).2)
def lCurve (most : Int) (l : List Seg) (a b c : Pt) : List Seg × Int := ((St.curve (stOf most l) a b c).1.l, (St.curve (stOf most l) a b c).2)
def lClose (most : Int) (l : List Seg) : List Seg × Int := ((St.close (stOf most l)).1.l, (St.close (stOf most l)).2)
theorem canon_add {most : Int} {l more : List Seg} {to : Pt} (hs : startOf (l ++ more) = startOf l) (hc : curOf (l ++ more) = to) : (St.add (stOf most l) to more).1 = stOf most (St.add (stOf most l) to more).1.l := by
  unfold St.add
  split
  · rfl
  · show St.mk most (l ++ more) (startOf l) to = ⟨most, l ++ more, startOf (l ++ more), curOf (l ++ more)⟩
    rw [hs, hc]
theorem lastK_four {l : List Seg} (h : lastK l = 4) : curOf l = startOf l := by
  unfold lastK at h
  unfold curOf
  split at h
  · cases h
  · next s hs => rw [hs]; simp only [h, if_true]
theorem canon_draw {most : Int} {l : List Seg} {s : Seg} {to : Pt} (hk : s.k ≠ 1) (h4 : s.k ≠ 4) (hto : to = if s.k = 3 then s.c else s.a) : (St.draw (stOf most l) s to).1 = stOf most (St.draw (stOf most l) s to).1.l := by
  unfold St.draw
  split
  · rfl
  · split
    · next h =>
      have h' : lastK l = 4 := h
      refine canon_add ?_ ?_
      · rw [show l ++ [⟨1, (stOf most l).n, Z, Z⟩, s] = (l ++ [⟨1, (stOf most l).n, Z, Z⟩]) ++ [s] by simp, startOf_append, if_neg hk, startOf_append]
        exact lastK_four h'
      · rw [show l ++ [⟨1, (stOf most l).n, Z, Z⟩, s] = (l ++ [⟨1, (stOf most l).n, Z, Z⟩]) ++ [s] by simp, curOf_append, if_neg h4, hto]
    · exact canon_add (by rw [show (stOf most l).l = l from rfl] at *; rw [startOf_append, if_neg hk]) (by rw [curOf_append, if_neg h4, hto])
theorem canon_line (most : Int) (l : List Seg) (a : Pt) : (St.line (stOf most l) a).1 = stOf most (lLine most l a).1 := by
  unfold lLine St.line
  split
  · exact canon_draw (show (2 : Int) ≠ 1 by decide) (show (2 : Int) ≠ 4 by decide) rfl
  · rfl
theorem canon_curve (most : Int) (l : List Seg) (a b c : Pt) : (St.curve (stOf most l) a b c).1 = stOf most (lCurve most l a b c).1 := by
  unfold lCurve St.curve
  split
  · exact canon_draw (show (3 : Int) ≠ 1 by decide) (show (3 : Int) ≠ 4 by decide) rfl
  · rfl
theorem canon_close (most : Int) (l : List Seg) : (St.close (stOf most l)).1 = stOf most (lClose most l).1 := by
  unfold lClose St.close
  split
  · rfl
  · split
    · rfl
    · exact canon_add (by rw [startOf_append]; rfl) (by rw [curOf_append]; rfl)
theorem canon_move (most : Int) (l : List Seg) (a : Pt) : (St.move (stOf most l) a).1 = stOf most (lMove most l a).1 := by
  unfold lMove St.move
  split
  · split
    · show St.mk most (l.dropLast ++ [⟨1, a, Z, Z⟩]) a a = ⟨most, l.dropLast ++ [⟨1, a, Z, Z⟩], startOf (l.dropLast ++ [⟨1, a, Z, Z⟩]), curOf (l.dropLast ++ [⟨1, a, Z, Z⟩])⟩
      rw [startOf_append, curOf_append]
      rfl
    · unfold St.add
      split
      · rfl
      · show St.mk most (l ++ [⟨1, a, Z, Z⟩]) a a = ⟨most, l ++ [⟨1, a, Z, Z⟩], startOf (l ++ [⟨1, a, Z, Z⟩]), curOf (l ++ [⟨1, a, Z, Z⟩])⟩
        rw [startOf_append, curOf_append]
        rfl
  · rfl

end Go.Proofs.Ytgfkfhkgidmepaa.PathM
