/- A path that is moved, and its box. No program in sight; no condition. -/
import Derived.Test.YtgfkfhkgidmepaaPathM3
namespace Go.Proofs.Ytgfkfhkgidmepaa.PathM

def sh (d p : Pt) : Pt := (p.1 + d.1, p.2 + d.2)
/-- a segment of which the first points are moved -/
def mvP (d : Pt) (j : Nat) (s : Seg) : Seg := ⟨s.k, if 0 < j then sh d s.a else s.a, if 1 < j then sh d s.b else s.b, if 2 < j then sh d s.c else s.c⟩
def Seg.n (s : Seg) : Nat := (points s.k).toNat
def mv (d : Pt) (s : Seg) : Seg := mvP d s.n s
def setPt (s : Seg) (j : Nat) (p : Pt) : Seg := match j with | 0 => { s with a := p } | 1 => { s with b := p } | _ => { s with c := p }
theorem mvP_zero (d : Pt) (s : Seg) : mvP d 0 s = s := rfl
theorem mvP_step (d : Pt) (s : Seg) (j : Nat) (p : Pt) (h : s.pts[j]? = some p) : mvP d (j + 1) s = setPt (mvP d j s) j (sh d p) := by
  match j, h with
  | 0, h => obtain rfl : s.a = p := by simpa [Seg.pts] using h
            rfl
  | 1, h => obtain rfl : s.b = p := by simpa [Seg.pts] using h
            rfl
  | 2, h => obtain rfl : s.c = p := by simpa [Seg.pts] using h
            rfl
  | j + 3, h => simp [Seg.pts] at h
/-- the segments of which k are moved, and j points of the next one -/
def mvd (d : Pt) (l : List Seg) (k j : Nat) : List Seg := (l.take k).map (mv d) ++ ((l.drop k).take 1).map (mvP d j) ++ l.drop (k + 1)
theorem mvd_zero (d : Pt) (l : List Seg) : mvd d l 0 0 = l := by
  cases l with
  | nil => rfl
  | cons s l => simp [mvd, mvP_zero]
theorem mvd_length (d : Pt) (l : List Seg) (k j : Nat) : (mvd d l k j).length = l.length := by simp [mvd]; omega
theorem drop_at {α : Type} {l : List α} {k : Nat} {s : α} (h : l[k]? = some s) : l.drop k = s :: l.drop (k + 1) := by
  obtain ⟨h1, h2⟩ := List.getElem?_eq_some_iff.1 h
  rw [← h2, ← List.drop_eq_getElem_cons h1]
theorem mvd_of {d : Pt} {l : List Seg} {k j : Nat} {s : Seg} (h : l[k]? = some s) : mvd d l k j = (l.take k).map (mv d) ++ mvP d j s :: l.drop (k + 1) := by
  simp [mvd, drop_at h]
theorem mvd_next {d : Pt} {l : List Seg} {k : Nat} {s : Seg} (h : l[k]? = some s) : mvd d l k s.n = mvd d l (k + 1) 0 := by
  rw [mvd_of h, mvd, take_succ_of h]
  simp only [List.map_append, List.map_cons, List.map_nil, List.append_assoc]
  congr 1
  show mv d s :: l.drop (k + 1) = _
  simp only [List.cons_append, List.nil_append, List.cons.injEq, true_and]
  have e : mvP d 0 = id := by funext s; rfl
  rw [e, List.map_id]
  rw [show l.drop (k + 1 + 1) = (l.drop (k + 1)).drop 1 by rw [List.drop_drop]]
  exact (List.take_append_drop 1 _).symm
theorem mvd_all (d : Pt) (l : List Seg) (k : Nat) (h : l.length ≤ k) : mvd d l k 0 = l.map (mv d) := by
  unfold mvd
  rw [List.take_of_length_le h, List.drop_eq_nil_of_le h, List.drop_eq_nil_of_le (by omega)]
  simp
/-- what a point's two cells make of it -/
theorem mvd_cells {d : Pt} {l : List Seg} {k j : Nat} {s : Seg} {p : Pt} (h : l[k]? = some s) (hp : s.pts[j]? = some p) :
    ((segCells (mvd d l k j)).set (k * 7 + 1 + j * 2) (.int .i64 (sh d p).1)).set (k * 7 + 1 + j * 2 + 1) (.int .i64 (sh d p).2) = segCells (mvd d l k (j + 1)) := by
  have hk := (List.getElem?_eq_some_iff.1 h).1
  have hj : j < 3 := by simpa [Seg.pts] using (List.getElem?_eq_some_iff.1 hp).1
  rw [mvd_of h, mvd_of h, mvP_step d s j p hp]
  have e1 : ∀ (A : List Seg) (s' : Seg) (B : List Seg), segCells (A ++ s' :: B) = segCells A ++ (s'.cells ++ segCells B) := fun A s' B => by simp [segCells]
  rw [e1, e1]
  have hA : (segCells ((l.take k).map (mv d))).length = k * 7 := by rw [segCells_length]; simp; omega
  rw [List.set_append_right _ _ (by omega), List.set_append_right _ _ (by omega), hA]
  congr 1
  generalize segCells (l.drop (k + 1)) = B
  generalize mvP d j s = t
  match j, hj with
  | 0, _ => rw [show k * 7 + 1 + 0 * 2 - k * 7 = 1 by omega, show k * 7 + 1 + 0 * 2 + 1 - k * 7 = 2 by omega]; rfl
  | 1, _ => rw [show k * 7 + 1 + 1 * 2 - k * 7 = 3 by omega, show k * 7 + 1 + 1 * 2 + 1 - k * 7 = 4 by omega]; rfl
  | 2, _ => rw [show k * 7 + 1 + 2 * 2 - k * 7 = 5 by omega, show k * 7 + 1 + 2 * 2 + 1 - k * 7 = 6 by omega]; rfl

/-! ## the moved path is sound, and its box is the moved box -/
theorem own_all (s : Seg) : s.own = s.pts.take s.n := rfl
theorem mv_k (d : Pt) (s : Seg) : (mv d s).k = s.k := rfl
theorem lastK_map (d : Pt) (l : List Seg) : lastK (l.map (mv d)) = lastK l := by
  unfold lastK
  rw [List.getLast?_map]
  cases l.getLast? <;> rfl
theorem mv_cases (d : Pt) (s : Seg) (hp : 0 ≤ points s.k) : (s.n = 1 ∧ mv d s = ⟨s.k, sh d s.a, s.b, s.c⟩) ∨ (s.n = 3 ∧ mv d s = ⟨s.k, sh d s.a, sh d s.b, sh d s.c⟩) ∨ (s.n = 0 ∧ mv d s = s) := by
  rcases points_cases hp with ⟨-, h⟩ | ⟨-, h⟩ | ⟨-, h⟩ | ⟨-, h⟩
  · left; have hn : s.n = 1 := by unfold Seg.n; rw [h]; rfl
    exact ⟨hn, by unfold mv mvP; rw [hn]; rfl⟩
  · left; have hn : s.n = 1 := by unfold Seg.n; rw [h]; rfl
    exact ⟨hn, by unfold mv mvP; rw [hn]; rfl⟩
  · right; left; have hn : s.n = 3 := by unfold Seg.n; rw [h]; rfl
    exact ⟨hn, by unfold mv mvP; rw [hn]; rfl⟩
  · right; right; have hn : s.n = 0 := by unfold Seg.n; rw [h]; rfl
    exact ⟨hn, by unfold mv mvP; rw [hn]; rfl⟩
theorem own_mv (d : Pt) (s : Seg) (hp : 0 ≤ points s.k) : (mv d s).own = s.own.map (sh d) := by
  have e : ∀ t : Seg, t.k = s.k → t.own = t.pts.take s.n := fun t h => by unfold Seg.own Seg.n; rw [h]
  rw [e _ (mv_k d s), own_all]
  rcases mv_cases d s hp with ⟨hn, h⟩ | ⟨hn, h⟩ | ⟨hn, h⟩ <;> rw [hn, h] <;> rfl
theorem soundSeg_mv (d : Pt) (last : Int) (s : Seg) (h : soundSeg last s = true) (hf : s.own.all (fun p => fitsP (sh d p)) = true) : soundSeg last (mv d s) = true := by
  unfold soundSeg at *
  simp only [Bool.and_eq_true, decide_eq_true_eq, Bool.not_eq_true'] at h ⊢
  obtain ⟨hp, hfo, ha, hz⟩ := h
  refine ⟨hp, hfo, ?_⟩
  rw [own_all] at hf
  simp only [Seg.pts, List.all_cons, List.all_nil, Bool.and_true, Bool.and_eq_true] at ha
  obtain ⟨fa, fb, fc⟩ := ha
  change (s.pts.drop s.n).any nz = false at hz
  show (mv d s).pts.all fitsP = true ∧ ((mv d s).pts.drop s.n).any nz = false
  rcases mv_cases d s hp with ⟨hn, h⟩ | ⟨hn, h⟩ | ⟨hn, h⟩ <;> rw [hn] at hf hz ⊢ <;> rw [h] <;> simp [Seg.pts] at hf hz ⊢
  · exact ⟨⟨hf, fb, fc⟩, hz⟩
  · exact hf
  · exact ⟨⟨fa, fb, fc⟩, hz⟩
theorem soundFrom_mv (d : Pt) : ∀ (l : List Seg) (last : Int), soundFrom last l = true → (allPts l).all (fun p => fitsP (sh d p)) = true → soundFrom last (l.map (mv d)) = true
  | [], _, _, _ => rfl
  | s :: l, last, h, hf => by
    simp only [soundFrom, Bool.and_eq_true] at h
    simp only [allPts, List.flatMap_cons, List.all_append, Bool.and_eq_true] at hf
    simp only [List.map_cons, soundFrom, Bool.and_eq_true]
    exact ⟨soundSeg_mv d last s h.1 hf.1, by rw [mv_k]; exact soundFrom_mv d l s.k h.2 hf.2⟩
theorem sound_mv (d : Pt) (l : List Seg) (h : sound l = true) (hf : (allPts l).all (fun p => fitsP (sh d p)) = true) : sound (l.map (mv d)) = true := by
  unfold sound
  rw [soundFrom_mv d l 0 (soundFrom_of h) hf, List.length_map, decide_eq_true (sound_len h)]
  rfl
theorem soundFrom_pts : ∀ (l : List Seg) (last : Int), soundFrom last l = true → ∀ s ∈ l, 0 ≤ points s.k ∧ s.pts.all fitsP = true
  | [], _, _, s, hs => by simp at hs
  | t :: l, last, h, s, hs => by
    simp only [soundFrom, Bool.and_eq_true] at h
    rcases List.mem_cons.1 hs with rfl | hs
    · have := h.1
      unfold soundSeg at this
      simp only [Bool.and_eq_true, decide_eq_true_eq] at this
      exact ⟨this.1, this.2.2.1⟩
    · exact soundFrom_pts l t.k h.2 s hs
theorem allPts_mv (d : Pt) (l : List Seg) (h : ∀ s ∈ l, 0 ≤ points s.k) : allPts (l.map (mv d)) = (allPts l).map (sh d) := by
  induction l with
  | nil => rfl
  | cons s l ih =>
    simp only [allPts, List.map_cons, List.flatMap_cons, List.map_append] at *
    rw [own_mv d s (h s (by simp)), ih (fun t ht => h t (by simp [ht]))]
theorem foldl_sh (d : Pt) : ∀ (P : List Pt) (b : Pt × Pt), (P.map (sh d)).foldl stepP (sh d b.1, sh d b.2) = (sh d (P.foldl stepP b).1, sh d (P.foldl stepP b).2)
  | [], b => rfl
  | p :: P, b => by
    rw [List.map_cons, List.foldl_cons, List.foldl_cons, ← foldl_sh d P (stepP b p)]
    congr 1
    simp only [stepP, sh, Prod.mk.injEq]
    omega
theorem first_move {s : Seg} {r : List Seg} (h : sound (s :: r) = true) : s.k = 1 := by
  have := soundFrom_of h
  simp only [soundFrom, Bool.and_eq_true] at this
  have h1 := this.1
  unfold soundSeg follows at h1
  by_cases hk : s.k = 1
  · exact hk
  · simp [hk] at h1
theorem bounds_mv (d : Pt) (l : List Seg) (h : sound l = true) (h0 : l ≠ []) : bounds (l.map (mv d)) = (sh d (bounds l).1, sh d (bounds l).2) := by
  match l, h0 with
  | s :: r, _ =>
    have hk := first_move h
    have ha : (mv d s).a = sh d s.a := by unfold mv mvP Seg.n; rw [hk]; rfl
    have e := allPts_mv d (s :: r) (fun t ht => (soundFrom_pts _ _ (soundFrom_of h) t ht).1)
    rw [List.map_cons] at e
    show (allPts (mv d s :: r.map (mv d))).foldl stepP ((mv d s).a, (mv d s).a) = _
    rw [e, ha]
    exact foldl_sh d _ (s.a, s.a)
theorem foldl_in : ∀ (P : List Pt) (b : Pt × Pt), (P.foldl stepP b).1.1 ≤ b.1.1 ∧ (P.foldl stepP b).1.2 ≤ b.1.2 ∧ b.2.1 ≤ (P.foldl stepP b).2.1 ∧ b.2.2 ≤ (P.foldl stepP b).2.2 ∧
    ∀ p ∈ P, (P.foldl stepP b).1.1 ≤ p.1 ∧ (P.foldl stepP b).1.2 ≤ p.2 ∧ p.1 ≤ (P.foldl stepP b).2.1 ∧ p.2 ≤ (P.foldl stepP b).2.2
  | [], b => by simp
  | q :: P, b => by
    obtain ⟨h1, h2, h3, h4, h5⟩ := foldl_in P (stepP b q)
    rw [List.foldl_cons]
    have a1 : (stepP b q).1.1 = min b.1.1 q.1 := rfl
    have a2 : (stepP b q).1.2 = min b.1.2 q.2 := rfl
    have a3 : (stepP b q).2.1 = max b.2.1 q.1 := rfl
    have a4 : (stepP b q).2.2 = max b.2.2 q.2 := rfl
    refine ⟨by omega, by omega, by omega, by omega, fun p hp => ?_⟩
    rcases List.mem_cons.1 hp with e | hp
    · subst e; refine ⟨by omega, by omega, by omega, by omega⟩
    · exact h5 p hp
theorem foldl_at : ∀ (P : List Pt) (b : Pt × Pt), ((P.foldl stepP b).1.1 = b.1.1 ∨ ∃ p ∈ P, p.1 = (P.foldl stepP b).1.1) ∧ ((P.foldl stepP b).1.2 = b.1.2 ∨ ∃ p ∈ P, p.2 = (P.foldl stepP b).1.2) ∧
    ((P.foldl stepP b).2.1 = b.2.1 ∨ ∃ p ∈ P, p.1 = (P.foldl stepP b).2.1) ∧ ((P.foldl stepP b).2.2 = b.2.2 ∨ ∃ p ∈ P, p.2 = (P.foldl stepP b).2.2)
  | [], b => by simp
  | q :: P, b => by
    obtain ⟨h1, h2, h3, h4⟩ := foldl_at P (stepP b q)
    rw [List.foldl_cons]
    have key : ∀ {x y : Int} {f : Pt → Int} {F : Int}, (F = x ∨ ∃ p ∈ P, f p = F) → (x = y ∨ x = f q) → (F = y ∨ ∃ p ∈ q :: P, f p = F) := fun {x y f F} h h' => by
      rcases h with h | ⟨p, hp, h⟩
      · rcases h' with h' | h'
        · exact Or.inl (h.trans h')
        · exact Or.inr ⟨q, by simp, by rw [h, h']⟩
      · exact Or.inr ⟨p, by simp [hp], h⟩
    exact ⟨key (f := fun p => p.1) h1 (by simp only [stepP]; omega), key (f := fun p => p.2) h2 (by simp only [stepP]; omega), key (f := fun p => p.1) h3 (by simp only [stepP]; omega), key (f := fun p => p.2) h4 (by simp only [stepP]; omega)⟩
theorem box_in (l : List Seg) (p : Pt) (hp : p ∈ allPts l) : (bounds l).1.1 ≤ p.1 ∧ (bounds l).1.2 ≤ p.2 ∧ p.1 ≤ (bounds l).2.1 ∧ p.2 ≤ (bounds l).2.2 := by
  match l with
  | [] => simp [allPts] at hp
  | s :: r => exact (foldl_in (allPts (s :: r)) (s.a, s.a)).2.2.2.2 p hp
theorem box_at (l : List Seg) (h : sound l = true) (h0 : l ≠ []) : (allPts l).any (fun p => p.1 == (bounds l).1.1) = true ∧ (allPts l).any (fun p => p.1 == (bounds l).2.1) = true ∧ (allPts l).any (fun p => p.2 == (bounds l).1.2) = true ∧ (allPts l).any (fun p => p.2 == (bounds l).2.2) = true := by
  match l, h0 with
  | s :: r, _ =>
    have hk := first_move h
    have ha : s.a ∈ allPts (s :: r) := by
      simp only [allPts, List.flatMap_cons, List.mem_append]
      left
      unfold Seg.own
      rw [hk]
      simp [points, Seg.pts]
    obtain ⟨h1, h2, h3, h4⟩ := foldl_at (allPts (s :: r)) (s.a, s.a)
    refine ⟨List.any_eq_true.2 ?_, List.any_eq_true.2 ?_, List.any_eq_true.2 ?_, List.any_eq_true.2 ?_⟩
    · rcases h1 with h1 | ⟨p, hp, h1⟩
      · exact ⟨s.a, ha, by rw [beq_iff_eq]; exact h1.symm⟩
      · exact ⟨p, hp, by rw [beq_iff_eq]; exact h1⟩
    · rcases h3 with h1 | ⟨p, hp, h1⟩
      · exact ⟨s.a, ha, by rw [beq_iff_eq]; exact h1.symm⟩
      · exact ⟨p, hp, by rw [beq_iff_eq]; exact h1⟩
    · rcases h2 with h1 | ⟨p, hp, h1⟩
      · exact ⟨s.a, ha, by rw [beq_iff_eq]; exact h1.symm⟩
      · exact ⟨p, hp, by rw [beq_iff_eq]; exact h1⟩
    · rcases h4 with h1 | ⟨p, hp, h1⟩
      · exact ⟨s.a, ha, by rw [beq_iff_eq]; exact h1.symm⟩
      · exact ⟨p, hp, by rw [beq_iff_eq]; exact h1⟩
theorem pts_fit (l : List Seg) (h : sound l = true) (p : Pt) (hp : p ∈ allPts l) : fitsP p = true := by
  simp only [allPts, List.mem_flatMap] at hp
  obtain ⟨s, hs, hp⟩ := hp
  have := (soundFrom_pts l 0 (soundFrom_of h) s hs).2
  exact List.all_eq_true.1 this p (List.mem_of_mem_take hp)

theorem cells_pt {s : Seg} {j : Nat} {p : Pt} (h : s.pts[j]? = some p) : s.cells[1 + j * 2]? = some (.int .i64 p.1) ∧ s.cells[1 + j * 2 + 1]? = some (.int .i64 p.2) := by
  match j, h with
  | 0, h => obtain rfl : s.a = p := by simpa [Seg.pts] using h
            exact ⟨rfl, rfl⟩
  | 1, h => obtain rfl : s.b = p := by simpa [Seg.pts] using h
            exact ⟨rfl, rfl⟩
  | 2, h => obtain rfl : s.c = p := by simpa [Seg.pts] using h
            exact ⟨rfl, rfl⟩
  | j + 3, h => simp [Seg.pts] at h
theorem n_le (s : Seg) : s.n ≤ 3 := by
  unfold Seg.n points
  split
  · decide
  · split
    · decide
    · split
      · decide
      · split <;> decide
theorem bounds_fit (l : List Seg) (h : sound l = true) (h0 : l ≠ []) : fitsP (bounds l).1 = true ∧ fitsP (bounds l).2 = true := by
  obtain ⟨h1, h2, h3, h4⟩ := box_at l h h0
  have key : ∀ {f : Pt → Int} {v : Int}, (allPts l).any (fun p => f p == v) = true → ∃ p ∈ allPts l, f p = v := fun h => by
    obtain ⟨p, hp, h⟩ := List.any_eq_true.1 h
    exact ⟨p, hp, by simpa using h⟩
  obtain ⟨p1, m1, e1⟩ := key (f := fun p => p.1) h1
  obtain ⟨p2, m2, e2⟩ := key (f := fun p => p.1) h2
  obtain ⟨p3, m3, e3⟩ := key (f := fun p => p.2) h3
  obtain ⟨p4, m4, e4⟩ := key (f := fun p => p.2) h4
  have f1 := pts_fit l h p1 m1
  have f2 := pts_fit l h p2 m2
  have f3 := pts_fit l h p3 m3
  have f4 := pts_fit l h p4 m4
  unfold fitsP at *
  simp only [Bool.and_eq_true] at *
  exact ⟨⟨e1 ▸ f1.1, e3 ▸ f3.2⟩, ⟨e2 ▸ f2.1, e4 ▸ f4.2⟩⟩

end Go.Proofs.Ytgfkfhkgidmepaa.PathM
