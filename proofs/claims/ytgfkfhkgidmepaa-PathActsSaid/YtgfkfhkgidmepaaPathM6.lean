/- What Move, Line, Curve and Close leave is sound where the path was, and longer by two segments at most. No program in sight. -/
import Derived.Test.YtgfkfhkgidmepaaPathM4
import Derived.Test.YtgfkfhkgidmepaaPathM5
namespace Go.Proofs.Ytgfkfhkgidmepaa.PathM

theorem fits_start (l : List Seg) : ∀ s : Pt, fitsP s = true → (∀ x ∈ l, x.pts.all fitsP = true) → fitsP (l.foldl (fun s x => if x.k = 1 then x.a else s) s) = true := by
  induction l with
  | nil => intro s h _; exact h
  | cons y l ih =>
    intro s h hl
    rw [List.foldl_cons]
    refine ih _ ?_ (fun x hx => hl x (List.mem_cons_of_mem _ hx))
    split
    · have := hl y (List.mem_cons_self ..)
      simp [Seg.pts] at this
      exact this.1
    · exact h
theorem fits_startOf {l : List Seg} (h : soundFrom 0 l = true) : fitsP (startOf l) = true :=
  fits_start l Z (by decide) (fun s hs => (soundFrom_pts l 0 h s hs).2)
theorem sound_add {most : Int} {l more : List Seg} {to : Pt} (h : soundFrom 0 l = true) (h2 : soundFrom (lastK l) more = true) : soundFrom 0 (St.add (stOf most l) to more).1.l = true := by
  unfold St.add
  split
  · exact h
  · show soundFrom 0 (l ++ more) = true
    rw [soundFrom_append, h, endK_zero, h2]
    rfl
theorem len_add (most : Int) (l more : List Seg) (to : Pt) : (St.add (stOf most l) to more).1.l.length ≤ l.length + more.length := by
  unfold St.add
  split
  · exact Nat.le_add_right _ _
  · show (l ++ more).length ≤ _
    simp
theorem fitsZ : fitsP (0, 0) = true := by decide
theorem soundSeg_one {last : Int} {p : Pt} (hp : fitsP p = true) (h : last ≠ 1) : soundSeg last ⟨1, p, Z, Z⟩ = true := by
  simp [soundSeg, points, follows, Seg.pts, hp, fitsZ, h, nz, Z]
theorem soundSeg_two {last : Int} {p : Pt} (hp : fitsP p = true) (h : last ≠ 0) (h4 : last ≠ 4) : soundSeg last ⟨2, p, Z, Z⟩ = true := by
  simp [soundSeg, points, follows, Seg.pts, hp, fitsZ, h, h4, nz, Z]
theorem soundSeg_three {last : Int} {p q r : Pt} (hp : fitsP p = true) (hq : fitsP q = true) (hr : fitsP r = true) (h : last ≠ 0) (h4 : last ≠ 4) : soundSeg last ⟨3, p, q, r⟩ = true := by
  simp [soundSeg, points, follows, Seg.pts, hp, hq, hr, h, h4]
theorem soundSeg_four {last : Int} (h : last ≠ 0) (h4 : last ≠ 4) : soundSeg last ⟨4, Z, Z, Z⟩ = true := by
  simp [soundSeg, points, follows, Seg.pts, fitsZ, h, h4, nz, Z]
theorem sound_draw {most : Int} {l : List Seg} {s : Seg} {to : Pt} (h : soundFrom 0 l = true) (hs : ∀ last : Int, last ≠ 0 → last ≠ 4 → soundSeg last s = true) : soundFrom 0 (St.draw (stOf most l) s to).1.l = true := by
  unfold St.draw
  split
  · exact h
  · next h0 =>
    have h0' : lastK l ≠ 0 := h0
    split
    · next h4 =>
      have h4' : lastK l = 4 := h4
      refine sound_add h ?_
      have hn : (stOf most l).n = startOf l := lastK_four h4'
      rw [hn, h4']
      simp only [soundFrom, Bool.and_true, Bool.and_eq_true]
      exact ⟨soundSeg_one (fits_startOf h) (by decide), hs 1 (by decide) (by decide)⟩
    · next h4 =>
      have h4' : lastK l ≠ 4 := h4
      refine sound_add h ?_
      simp only [soundFrom, Bool.and_true]
      exact hs _ h0' h4'
theorem len_draw (most : Int) (l : List Seg) (s : Seg) (to : Pt) : (St.draw (stOf most l) s to).1.l.length ≤ l.length + 2 := by
  unfold St.draw
  split
  · exact Nat.le_add_right _ _
  · split
    · exact len_add most l _ to
    · exact Nat.le_trans (len_add most l _ to) (by simp)
theorem sound_lLine {most : Int} {l : List Seg} {a : Pt} (h : soundFrom 0 l = true) : soundFrom 0 (lLine most l a).1 = true := by
  unfold lLine St.line
  split
  · next hf => exact sound_draw h (fun last h0 h4 => soundSeg_two hf h0 h4)
  · exact h
theorem len_lLine (most : Int) (l : List Seg) (a : Pt) : (lLine most l a).1.length ≤ l.length + 2 := by
  unfold lLine St.line
  split
  · exact len_draw ..
  · exact Nat.le_add_right _ _
theorem sound_lCurve {most : Int} {l : List Seg} {a b c : Pt} (h : soundFrom 0 l = true) : soundFrom 0 (lCurve most l a b c).1 = true := by
  unfold lCurve St.curve
  split
  · next hf =>
    simp only [Bool.and_eq_true] at hf
    exact sound_draw h (fun last h0 h4 => soundSeg_three hf.1 hf.2.1 hf.2.2 h0 h4)
  · exact h
theorem len_lCurve (most : Int) (l : List Seg) (a b c : Pt) : (lCurve most l a b c).1.length ≤ l.length + 2 := by
  unfold lCurve St.curve
  split
  · exact len_draw ..
  · exact Nat.le_add_right _ _
theorem sound_lClose {most : Int} {l : List Seg} (h : soundFrom 0 l = true) : soundFrom 0 (lClose most l).1 = true := by
  unfold lClose St.close
  split
  · exact h
  · next h0 =>
    have h0' : lastK l ≠ 0 := h0
    split
    · exact h
    · next h4 =>
      have h4' : lastK l ≠ 4 := h4
      refine sound_add h ?_
      simp only [soundFrom, Bool.and_true]
      exact soundSeg_four h0' h4'
theorem len_lClose (most : Int) (l : List Seg) : (lClose most l).1.length ≤ l.length + 2 := by
  unfold lClose St.close
  split
  · exact Nat.le_add_right _ _
  · split
    · exact Nat.le_add_right _ _
    · exact Nat.le_trans (len_add ..) (by simp)
theorem sound_lMove {most : Int} {l : List Seg} {a : Pt} (h : soundFrom 0 l = true) : soundFrom 0 (lMove most l a).1 = true := by
  unfold lMove St.move
  split
  · next hf =>
    split
    · next h1 =>
      have h1' : lastK l = 1 := h1
      show soundFrom 0 (l.dropLast ++ [⟨1, a, Z, Z⟩]) = true
      have hne : l ≠ [] := fun e => by rw [e] at h1'; cases h1'
      have e := List.dropLast_concat_getLast hne
      have hk : (l.getLast hne).k = 1 := by rw [← h1', ← lastK_append l.dropLast, e]
      rw [← e, soundFrom_append, endK_zero] at h
      simp only [soundFrom, Bool.and_true, Bool.and_eq_true] at h
      rw [soundFrom_append, endK_zero, h.1]
      simp only [soundFrom, Bool.and_true, Bool.true_and]
      refine soundSeg_one hf (fun e2 => ?_)
      have := h.2
      unfold soundSeg at this
      simp [hk, e2, follows] at this
    · next h1 =>
      have h1' : lastK l ≠ 1 := h1
      have hs : soundFrom 0 (St.add (stOf most l) a [⟨1, a, Z, Z⟩]).1.l = true := sound_add h (by
        simp only [soundFrom, Bool.and_true]
        exact soundSeg_one hf h1')
      split
      · exact hs
      · exact hs
  · exact h
theorem len_lMove (most : Int) (l : List Seg) (a : Pt) : (lMove most l a).1.length ≤ l.length + 2 := by
  unfold lMove St.move
  split
  · split
    · show (l.dropLast ++ [(⟨1, a, Z, Z⟩ : Seg)]).length ≤ l.length + 2
      simp
      omega
    · have hs : (St.add (stOf most l) a [⟨1, a, Z, Z⟩]).1.l.length ≤ l.length + 2 := Nat.le_trans (len_add most l [⟨1, a, Z, Z⟩] a) (by simp)
      split
      · exact hs
      · exact hs
  · exact Nat.le_add_right _ _

end Go.Proofs.Ytgfkfhkgidmepaa.PathM
