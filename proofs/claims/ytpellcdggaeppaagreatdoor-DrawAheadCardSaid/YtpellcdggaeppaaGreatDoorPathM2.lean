/- Sound paths in plain numbers. No program in sight; no condition. -/
import Derived.Test.YtpellcdggaeppaaGreatDoorPathM
namespace Go.Proofs.YtpellcdggaeppaaGreatDoor.PathM

/-- how many points a kind of segment has; -1: it is none -/
def points (k : Int) : Int := if k = 1 then 1 else if k = 2 then 1 else if k = 3 then 3 else if k = 4 then 0 else -1
/-- may a segment stand behind another one? -/
def follows (k last : Int) : Bool := if k = 1 then !(last == 1) else !(last == 0) && !(last == 4)
def nz (p : Pt) : Bool := !(p == ((0, 0) : Pt))
def Seg.pts (s : Seg) : List Pt := [s.a, s.b, s.c]
def soundSeg (last : Int) (s : Seg) : Bool :=
  decide (0 ≤ points s.k) && (follows s.k last && (s.pts.all fitsP && !((s.pts.drop (points s.k).toNat).any nz)))
def soundFrom : Int → List Seg → Bool
  | _, [] => true
  | last, s :: l => soundSeg last s && soundFrom s.k l
def sound (l : List Seg) : Bool := decide (l.length ≤ 4096) && soundFrom 0 l
def endK (last : Int) (l : List Seg) : Int := match l.getLast? with | none => last | some s => s.k
theorem endK_zero (l : List Seg) : endK 0 l = lastK l := rfl
theorem endK_cons (last : Int) (s : Seg) (l : List Seg) : endK last (s :: l) = endK s.k l := by
  unfold endK
  rw [List.getLast?_cons]
  cases l.getLast? <;> rfl
theorem soundFrom_append : ∀ (l m : List Seg) (last : Int), soundFrom last (l ++ m) = (soundFrom last l && soundFrom (endK last l) m)
  | [], m, last => by simp [soundFrom, endK]
  | s :: l, m, last => by simp only [List.cons_append, soundFrom, soundFrom_append l m s.k, endK_cons, Bool.and_assoc]
theorem take_succ_of {α : Type} {l : List α} {k : Nat} {s : α} (h : l[k]? = some s) : l.take (k + 1) = l.take k ++ [s] := by
  obtain ⟨h1, h2⟩ := List.getElem?_eq_some_iff.1 h
  rw [List.take_succ_eq_append_getElem h1, h2]
theorem split_at {α : Type} {l : List α} {k : Nat} {s : α} (h : l[k]? = some s) : l = l.take k ++ s :: l.drop (k + 1) := by
  obtain ⟨h1, h2⟩ := List.getElem?_eq_some_iff.1 h
  rw [← h2, ← List.drop_eq_getElem_cons h1, List.take_append_drop]
theorem lastK_append (l : List Seg) (s : Seg) : lastK (l ++ [s]) = s.k := by unfold lastK; simp
theorem lastK_step {l : List Seg} {k : Nat} {s : Seg} (h : l[k]? = some s) : lastK (l.take (k + 1)) = s.k := by
  rw [take_succ_of h, lastK_append]
theorem sound_step {l : List Seg} {k : Nat} {s : Seg} (h0 : soundFrom 0 (l.take k) = true) (h : l[k]? = some s) (h1 : soundSeg (lastK (l.take k)) s = true) : soundFrom 0 (l.take (k + 1)) = true := by
  rw [take_succ_of h, soundFrom_append, h0, endK_zero]
  simp [soundFrom, h1]
theorem sound_stop {l : List Seg} {k : Nat} {s : Seg} (h : l[k]? = some s) (h1 : soundSeg (lastK (l.take k)) s = false) : sound l = false := by
  have e := split_at h
  unfold sound
  rw [e, soundFrom_append, endK_zero]
  simp [soundFrom, h1]
theorem sound_all {l : List Seg} {k : Nat} (h0 : soundFrom 0 (l.take k) = true) (hk : l.length ≤ k) (hl : l.length ≤ 4096) : sound l = true := by
  rw [List.take_of_length_le hk] at h0
  unfold sound
  rw [h0, decide_eq_true hl]
  rfl
theorem sound_long {l : List Seg} (hl : 4096 < l.length) : sound l = false := by
  unfold sound
  rw [decide_eq_false (by omega)]
  rfl
/-- what is sound, segment by segment -/
theorem soundFrom_at {l : List Seg} {k : Nat} {s : Seg} (h0 : soundFrom 0 l = true) (h : l[k]? = some s) : soundSeg (lastK (l.take k)) s = true := by
  have e := split_at h
  rw [e, soundFrom_append, endK_zero] at h0
  simp [soundFrom] at h0
  exact h0.2.1
theorem points_cases {k : Int} (h : 0 ≤ points k) : (k = 1 ∧ points k = 1) ∨ (k = 2 ∧ points k = 1) ∨ (k = 3 ∧ points k = 3) ∨ (k = 4 ∧ points k = 0) := by
  unfold points at *
  split at h
  · left; simp_all
  · split at h
    · right; left; simp_all
    · split at h
      · right; right; left; simp_all
      · split at h
        · right; right; right; simp_all
        · omega

/-- the least and the greatest places of points -/
def stepP (b : Pt × Pt) (p : Pt) : Pt × Pt := ((min b.1.1 p.1, min b.1.2 p.2), (max b.2.1 p.1, max b.2.2 p.2))
def Seg.own (s : Seg) : List Pt := s.pts.take (points s.k).toNat
def allPts (l : List Seg) : List Pt := l.flatMap Seg.own
theorem allPts_step {l : List Seg} {k : Nat} {s : Seg} (h : l[k]? = some s) : allPts (l.take (k + 1)) = allPts (l.take k) ++ s.own := by
  rw [take_succ_of h]; simp [allPts]
def bounds (l : List Seg) : Pt × Pt := match l with | [] => (Z, Z) | s :: r => (allPts (s :: r)).foldl stepP (s.a, s.a)
def boxOf (l : List Seg) : Pt × Pt × Bool := if sound l = true ∧ l ≠ [] then ((bounds l).1, (bounds l).2, true) else (Z, Z, false)

end Go.Proofs.YtpellcdggaeppaaGreatDoor.PathM
