/- Clear, Copy, and Move onto a MoveTo. -/
import Derived.Test.YteddlahklilncaaPathW7
import Derived.Test.YteddlahklilncaaPathM3
import Derived.Deep.RegionHeld3
namespace Go.Proofs.Yteddlahklilncaa.Path
open Go.ChangeShapes Go.WideShapes Go.ChangeAt Go.RowKit
open Go.Proofs.Yteddlahklilncaa.FixM (fits)
open Go.Proofs.Yteddlahklilncaa.PathM
set_option linter.unusedVariables false
set_option linter.unusedSimpArgs false

theorem cast {w : World} {b : Nat} {cs cs2 : Array Value} (h : Row w b cs) (e : cs = cs2) : Row w b cs2 := e ▸ h

theorem Segs.val {w : World} {v : Value} {l : List Seg} (h : Segs w v l) : ∃ a c, v = .slice a l.length c := by
  rcases h.form with ⟨rfl, rfl⟩ | ⟨g, cap, rfl, _⟩
  · exact ⟨_, _, rfl⟩
  · exact ⟨_, _, rfl⟩

set_option maxRecDepth 4000 in
theorem clear_calls (b : Nat) (v : Value) (t : St) (w : World) (h : PathIs w b v t) :
    Calls Try.prog 48 #[.pointer (some ⟨b, 0, none⟩)] w fun E w' => E = .returned (.tuple #[]) ∧ PathIs w' b (.slice none 0 0) ⟨t.most, [], Z, Z⟩ ∧ Chg [b] w w' := by
  have hlt := h.row.lt
  have R := h.row
  have q1 : w.cell? ⟨b, 1, none⟩ = some v := h.row.cell 1 rfl
  have q2 : w.cell? ⟨b, 2, none⟩ = some (.int .i64 t.s.1) := h.row.cell 2 rfl
  have q3 : w.cell? ⟨b, 3, none⟩ = some (.int .i64 t.s.2) := h.row.cell 3 rfl
  have q4 : w.cell? ⟨b, 4, none⟩ = some (.int .i64 t.n.1) := h.row.cell 4 rfl
  have q5 : w.cell? ⟨b, 5, none⟩ = some (.int .i64 t.n.2) := h.row.cell 5 rfl
  have f1 := h.row.free 1
  have f2 := h.row.free 2
  have f3 := h.row.free 3
  have f4 := h.row.free 4
  have f5 := h.row.free 5
  clear h
  go_enter Try.func48, Try.ntmps48
  go_wp2
  go_returns
  exact ⟨rfl, ⟨(by apply cast; (case h => (repeat (first | (with_reducible assumption) | (with_reducible apply Row.at; (simp; done)) | (with_reducible apply Row.alloc) | (with_reducible apply Row.drew) | (with_reducible apply Row.drewN) | (with_reducible apply Row.set) | ((with_reducible apply Row.other); (case hp => first | (simp; done) | (simp; omega) | omega))))); (case e => rfl)), World.ownsRow_nil _ _ _ _, Nat.zero_le _⟩, by (repeat' (first | (with_reducible exact Chg.refl _ _) | (with_reducible assumption) | (with_reducible refine Chg.alloc ?_ _) | (with_reducible refine Chg.drew ?_) | (with_reducible refine Chg.drewN ?_ _) | (with_reducible refine Chg.setCell ?_ ?_ _) | (with_reducible refine Chg.upc ?_ (by with_reducible assumption)) | (with_reducible refine Chg.call ?_ (by with_reducible assumption) ?_) | (refine Or.inl ?_; (simp; done)) | (simp; done) | (simp; omega) | omega))⟩

theorem own_drew {w : World} {base : Nat} {e : TypeId} {k n : Nat} {v : Value} {xs : List Value} (h : w.ownsRow base e k v n xs) : w.drew.ownsRow base e k v n xs := h

theorem segCells_setLast (l : List Seg) (k : Nat) (s : Seg) (h : l.length = k + 1) :
    ((((((((segCells l).set (k * 7) (.int .i64 s.k)).set (k * 7 + 1) (.int .i64 s.a.1)).set (k * 7 + 2) (.int .i64 s.a.2)).set (k * 7 + 3) (.int .i64 s.b.1)).set (k * 7 + 4) (.int .i64 s.b.2)).set (k * 7 + 5) (.int .i64 s.c.1)).set (k * 7 + 6) (.int .i64 s.c.2)) = segCells (l.dropLast ++ [s]) := by
  have hne : l ≠ [] := fun e => by rw [e] at h; cases h
  have hd : l.dropLast.length = k := by rw [List.length_dropLast, h]; rfl
  conv => lhs; rw [← List.dropLast_concat_getLast hne]
  generalize l.getLast hne = z
  rw [segCells_append, segCells_append]
  have hA : (segCells l.dropLast).length = k * 7 := by rw [segCells_length, hd]
  generalize segCells l.dropLast = A at hA
  have e : ∀ (B : List Value) (r : Nat) (u : Value), (A ++ B).set (k * 7 + r) u = A ++ B.set r u := fun B r u => by
    rw [List.set_append_right _ _ (by omega)]
    congr 2
    omega
  have e0 : ∀ (B : List Value) (u : Value), (A ++ B).set (k * 7) u = A ++ B.set 0 u := fun B u => e B 0 u
  rw [e0, e, e, e, e, e, e]
  rfl

set_option maxRecDepth 8000 in
set_option maxHeartbeats 2000000 in
theorem move_onto (b : Nat) (v : Value) (t : St) (x y : Int) (w : World) (h : PathIs w b v t) (hL1 : lastK t.l = 1) :
    Calls Try.prog 11 #[.pointer (some ⟨b, 0, none⟩), .agg #[.int .i64 x, .int .i64 y]] w fun E w' => E = .returned (.int .i64 (t.move (x, y)).2) ∧ Left w b v (t.move (x, y)).1 w' := by
  have HP := Lib.hid h
  have hlt := h.row.lt
  have hlen := h.len
  have hap := h.apart
  rcases h.segs.form with ⟨rfl, hl⟩ | ⟨g, cap, rfl, hn, hm, hg⟩
  · rw [hl] at hL1; cases hL1
  have hgb : g ≠ b := hap g rfl
  have hgb' : ¬ g = b := hgb
  have hbg' : ¬ b = g := fun e => hgb e.symm
  obtain ⟨k, hk⟩ : ∃ k, t.l.length = k + 1 := ⟨t.l.length - 1, by
    have : t.l ≠ [] := fun e => by rw [e] at hL1; cases hL1
    have := List.length_pos_iff.2 this
    omega⟩
  have HSG := Lib.hid (show w.ownsRow 0 82 7 (.slice (some ⟨g, 0, none⟩) (k + 1) cap) (k + 1) (segCells t.l) from by have := h.segs; unfold Segs at this; rwa [hk] at this)
  have q1 : w.cell? ⟨b, 1, none⟩ = some (.slice (some ⟨g, 0, none⟩) (k + 1) cap) := by have := h.row.cell 1 rfl; rwa [hk] at this
  have q2 : w.cell? ⟨b, 2, none⟩ = some (.int .i64 t.s.1) := h.row.cell 2 rfl
  have q3 : w.cell? ⟨b, 3, none⟩ = some (.int .i64 t.s.2) := h.row.cell 3 rfl
  have q4 : w.cell? ⟨b, 4, none⟩ = some (.int .i64 t.n.1) := h.row.cell 4 rfl
  have q5 : w.cell? ⟨b, 5, none⟩ = some (.int .i64 t.n.2) := h.row.cell 5 rfl
  have HE : Hid (∀ r, r < 7 → ∃ u, w.cell? ⟨g, k * 7 + r, none⟩ = some u) := Lib.hid (fun r hr => ⟨_, (HSG.out.cellAt _ (by omega)).trans (List.getElem?_eq_getElem (by rw [segCells_length, hk]; omega))⟩)
  have HFR := Lib.hid h.row
  clear h hap
  by_cases hf : [(x, y)].all fitsP = true
  · have HF := Lib.hid hf
    have HLK := Lib.hid hL1
    have H := Lib.hid (show t.move (x, y) = ({ t with l := t.l.dropLast ++ [⟨1, (x, y), Z, Z⟩], s := (x, y), n := (x, y) }, 0) by
      unfold St.move
      rw [if_pos (by simpa using hf), if_pos hL1])
    obtain ⟨u0, e0⟩ := HE.out 0 (by decide)
    obtain ⟨u1, e1⟩ := HE.out 1 (by decide)
    obtain ⟨u2, e2⟩ := HE.out 2 (by decide)
    obtain ⟨u3, e3⟩ := HE.out 3 (by decide)
    obtain ⟨u4, e4⟩ := HE.out 4 (by decide)
    obtain ⟨u5, e5⟩ := HE.out 5 (by decide)
    obtain ⟨u6, e6⟩ := HE.out 6 (by decide)
    rw [Nat.add_zero] at e0
    clear hf hL1
    go_enter Try.func11, Try.ntmps11
    go_wp2_with (first
      | (go_at_call 26; ((with_reducible refine (fits_calls2 [(x, y)] 1 (w.heap.size + 1) 1 #[.int .i64 x, .int .i64 y] _ rfl (by decide) (by (repeat' (first | (with_reducible assumption) | (with_reducible refine Row.at _ _ ?_; (simp; done)) | (with_reducible refine Row.alloc ?_ _) | (with_reducible refine Row.drew ?_) | (with_reducible refine Row.drewN ?_ _) | (with_reducible refine Row.other ?_ (by first | (simp; done) | (simp; omega) | omega) _) | (with_reducible refine Row.up ?_ (by with_reducible assumption)) | (with_reducible refine Row.chg ?_ (by with_reducible assumption) (by first | (simp; done) | (simp; omega)))))) pts1).mono ?_); rintro E w1 ⟨rfl, hu1⟩; rw [HF.out]; have hz1 := hu1.size; simp at hz1; have r0 : Row w1 w.heap.size #[.int .i64 x, .int .i64 y] := Row.up (by (repeat' (first | (with_reducible assumption) | (with_reducible refine Row.at _ _ ?_; (simp; done)) | (with_reducible refine Row.alloc ?_ _) | (with_reducible refine Row.drew ?_) | (with_reducible refine Row.drewN ?_ _) | (with_reducible refine Row.other ?_ (by first | (simp; done) | (simp; omega) | omega) _) | (with_reducible refine Row.up ?_ (by with_reducible assumption)) | (with_reducible refine Row.chg ?_ (by with_reducible assumption) (by first | (simp; done) | (simp; omega)))))) hu1; have q00 : w1.cell? ⟨w.heap.size, 0, none⟩ = some (.int .i64 x) := r0.cell 0 rfl; have q01 : w1.cell? ⟨w.heap.size, 1, none⟩ = some (.int .i64 y) := r0.cell 1 rfl; have l0 := r0.lt))
      | (go_at_call 27; ((with_reducible refine (last_calls b (.slice (some ⟨g, 0, none⟩) t.l.length cap) t _ (HP.out.up (by (repeat' (first | (with_reducible exact Up.refl _) | (with_reducible assumption) | (with_reducible refine Up.alloc ?_ _) | (with_reducible refine Up.drew ?_) | (with_reducible refine Up.drewN ?_ _) | (with_reducible refine Up.setCell ?_ ?_ _) | (with_reducible refine Up.call ?_ (by with_reducible assumption)) | go_size))))).mono ?_); rintro E w2 ⟨rfl, hu2⟩; rw [HLK.out]; have hz2 := hu2.size; simp at hz2; have r20 : Row w2 w.heap.size #[.int .i64 x, .int .i64 y] := Row.up (by (repeat' (first | (with_reducible assumption) | (with_reducible refine Row.at _ _ ?_; (simp; done)) | (with_reducible refine Row.alloc ?_ _) | (with_reducible refine Row.drew ?_) | (with_reducible refine Row.drewN ?_ _) | (with_reducible refine Row.other ?_ (by first | (simp; done) | (simp; omega) | omega) _) | (with_reducible refine Row.up ?_ (by with_reducible assumption)) | (with_reducible refine Row.chg ?_ (by with_reducible assumption) (by first | (simp; done) | (simp; omega)))))) hu2; have r21 : Row w2 w1.heap.size #[.int .i64 1, .int .i64 x, .int .i64 y, .int .i64 0, .int .i64 0, .int .i64 0, .int .i64 0] := Row.up (by (repeat' (first | (with_reducible assumption) | (with_reducible refine Row.at _ _ ?_; (simp; done)) | (with_reducible refine Row.alloc ?_ _) | (with_reducible refine Row.drew ?_) | (with_reducible refine Row.drewN ?_ _) | (with_reducible refine Row.other ?_ (by first | (simp; done) | (simp; omega) | omega) _) | (with_reducible refine Row.up ?_ (by with_reducible assumption)) | (with_reducible refine Row.chg ?_ (by with_reducible assumption) (by first | (simp; done) | (simp; omega)))))) hu2; have s0 : w2.cell? ⟨w1.heap.size, 0, none⟩ = some (.int .i64 1) := r21.cell 0 rfl; have s1 : w2.cell? ⟨w1.heap.size, 1, none⟩ = some (.int .i64 x) := r21.cell 1 rfl; have s2 : w2.cell? ⟨w1.heap.size, 2, none⟩ = some (.int .i64 y) := r21.cell 2 rfl; have s3 : w2.cell? ⟨w1.heap.size, 3, none⟩ = some (.int .i64 0) := r21.cell 3 rfl; have s4 : w2.cell? ⟨w1.heap.size, 4, none⟩ = some (.int .i64 0) := r21.cell 4 rfl; have s5 : w2.cell? ⟨w1.heap.size, 5, none⟩ = some (.int .i64 0) := r21.cell 5 rfl; have s6 : w2.cell? ⟨w1.heap.size, 6, none⟩ = some (.int .i64 0) := r21.cell 6 rfl; have p0 : w2.cell? ⟨w.heap.size, 0, none⟩ = some (.int .i64 x) := r20.cell 0 rfl; have p1 : w2.cell? ⟨w.heap.size, 1, none⟩ = some (.int .i64 y) := r20.cell 1 rfl; have l20 := r20.lt; have l21 := r21.lt; have hv2 : Up w w2 := (by (repeat' (first | (with_reducible exact Up.refl _) | (with_reducible assumption) | (with_reducible refine Up.alloc ?_ _) | (with_reducible refine Up.drew ?_) | (with_reducible refine Up.drewN ?_ _) | (with_reducible refine Up.setCell ?_ ?_ _) | (with_reducible refine Up.call ?_ (by with_reducible assumption)) | go_size))); have b1 := (hv2.cells.1 b 1 hlt).trans q1; have b2 := (hv2.cells.1 b 2 hlt).trans q2; have b3 := (hv2.cells.1 b 3 hlt).trans q3; have b4 := (hv2.cells.1 b 4 hlt).trans q4; have b5 := (hv2.cells.1 b 5 hlt).trans q5; have g0 := (hv2.cells.1 g (k * 7) hg).trans e0; have z0 : w2.frozen? ⟨g, k * 7, none⟩ = false := (hv2.cells.2 g (k * 7) hg).trans (HSG.out.frozenAt _); have g1 := (hv2.cells.1 g (k * 7 + 1) hg).trans e1; have z1 : w2.frozen? ⟨g, k * 7 + 1, none⟩ = false := (hv2.cells.2 g (k * 7 + 1) hg).trans (HSG.out.frozenAt _); have g2 := (hv2.cells.1 g (k * 7 + 2) hg).trans e2; have z2 : w2.frozen? ⟨g, k * 7 + 2, none⟩ = false := (hv2.cells.2 g (k * 7 + 2) hg).trans (HSG.out.frozenAt _); have g3 := (hv2.cells.1 g (k * 7 + 3) hg).trans e3; have z3 : w2.frozen? ⟨g, k * 7 + 3, none⟩ = false := (hv2.cells.2 g (k * 7 + 3) hg).trans (HSG.out.frozenAt _); have g4 := (hv2.cells.1 g (k * 7 + 4) hg).trans e4; have z4 : w2.frozen? ⟨g, k * 7 + 4, none⟩ = false := (hv2.cells.2 g (k * 7 + 4) hg).trans (HSG.out.frozenAt _); have g5 := (hv2.cells.1 g (k * 7 + 5) hg).trans e5; have z5 : w2.frozen? ⟨g, k * 7 + 5, none⟩ = false := (hv2.cells.2 g (k * 7 + 5) hg).trans (HSG.out.frozenAt _); have g6 := (hv2.cells.1 g (k * 7 + 6) hg).trans e6; have z6 : w2.frozen? ⟨g, k * 7 + 6, none⟩ = false := (hv2.cells.2 g (k * 7 + 6) hg).trans (HSG.out.frozenAt _); have y2 : w2.frozen? ⟨b, 2, none⟩ = false := (hv2.cells.2 b 2 hlt).trans (HFR.out.free 2); have y3 : w2.frozen? ⟨b, 3, none⟩ = false := (hv2.cells.2 b 3 hlt).trans (HFR.out.free 3); have y4 : w2.frozen? ⟨b, 4, none⟩ = false := (hv2.cells.2 b 4 hlt).trans (HFR.out.free 4); have y5 : w2.frozen? ⟨b, 5, none⟩ = false := (hv2.cells.2 b 5 hlt).trans (HFR.out.free 5); have lb := Nat.lt_of_lt_of_le hlt hv2.size; have lg := Nat.lt_of_lt_of_le hg hv2.size; have nw1 : ¬ w1.heap.size = g := (by have := hu1.size; simp at this; omega); have nw2 : ¬ w.heap.size = g := (by omega); have nw3 : ¬ w1.heap.size = b := (by have := hu1.size; simp at this; omega); have nw4 : ¬ w.heap.size = b := (by omega); have nx1 : ¬ g = w1.heap.size := (fun e => nw1 e.symm); have nx2 : ¬ g = w.heap.size := (fun e => nw2 e.symm); have nx3 : ¬ b = w1.heap.size := (fun e => nw3 e.symm); have nx4 : ¬ b = w.heap.size := (fun e => nw4 e.symm))))
    go_region
    go_wp2
    go_region
    go_wp2
    go_ret
    refine ⟨by rw [H.out]; rfl, ?_⟩
    rw [H.out]
    have R2 : Row w2 b #[.int .i64 t.most, .slice (some ⟨g, 0, none⟩) (k + 1) cap, .int .i64 t.s.1, .int .i64 t.s.2, .int .i64 t.n.1, .int .i64 t.n.2] := by
      have := HFR.out.up hv2
      rwa [hk] at this
    have O2 : w2.ownsRow 0 82 7 (.slice (some ⟨g, 0, none⟩) (k + 1) cap) (k + 1) (segCells t.l) := by
      have := HP.out.segs.chg (S := []) (Chg.of_up hv2) (by simp)
      unfold Segs at this
      rwa [hk] at this
    have hlen2 : (t.l.dropLast ++ [(⟨1, (x, y), Z, Z⟩ : Seg)]).length = k + 1 := by simp [hk]
    refine ⟨.slice (some ⟨g, 0, none⟩) (k + 1) cap, ⟨(by apply cast; (case h => (repeat (first | (with_reducible assumption) | (with_reducible apply Row.at; (simp; done)) | (with_reducible apply Row.alloc) | (with_reducible apply Row.drew) | (with_reducible apply Row.drewN) | (with_reducible apply Row.set) | ((with_reducible apply Row.other); (case hp => first | (simp; done) | (simp; omega) | omega))))); (case e => rfl)), ?_, by show (t.l.dropLast ++ [(⟨1, (x, y), Z, Z⟩ : Seg)]).length ≤ 100000000; omega⟩, ?_, fun g' hg' => Or.inl hg'⟩
    · show World.ownsRow _ 0 _ 7 _ (t.l.dropLast ++ [(⟨1, (x, y), Z, Z⟩ : Seg)]).length (segCells (t.l.dropLast ++ [(⟨1, (x, y), Z, Z⟩ : Seg)]))
      rw [hlen2, ← segCells_setLast t.l k ⟨1, (x, y), Z, Z⟩ hk]
      have hne : ∀ i, (Value.slice (some ⟨g, 0, none⟩) (k + 1) cap).ownBlock ≠ some (⟨b, i, none⟩ : Addr).block := fun i e => by
        simp only [Value.ownBlock, Option.some.injEq] at e
        exact hgb e
      refine own_drew (own_drew ?_)
      refine ownsRow_setCell_other (ownsRow_setCell_other (ownsRow_setCell_other (ownsRow_setCell_other ?_ (hne 2) _) (hne 3) _) (hne 4) _) (hne 5) _
      exact ((((((((O2.stored (k * 7) _).1.stored (k * 7 + 1) _).1.stored (k * 7 + 2) _).1.stored (k * 7 + 3) _).1.stored (k * 7 + 4) _).1.stored (k * 7 + 5) _).1.stored (k * 7 + 6) _).1)
    · show Chg [b, g] w _
      (repeat' (first | (with_reducible exact Chg.refl _ _) | (with_reducible assumption) | (with_reducible refine Chg.alloc ?_ _) | (with_reducible refine Chg.drew ?_) | (with_reducible refine Chg.drewN ?_ _) | (with_reducible refine Chg.setCell ?_ ?_ _) | (with_reducible refine Chg.upc ?_ (by with_reducible assumption)) | (with_reducible refine Chg.call ?_ (by with_reducible assumption) ?_) | (refine Or.inl ?_; (simp; done)) | (simp; done) | (simp; omega) | omega))
  · have HF := Lib.hid (show [(x, y)].all fitsP = false by simpa using hf)
    have H := Lib.hid (show t.move (x, y) = (t, 11) by
      unfold St.move
      rw [if_neg (by simpa using hf)])
    clear hf
    go_enter Try.func11, Try.ntmps11
    go_wp2_with (go_at_call 26; ((with_reducible refine (fits_calls2 [(x, y)] 1 (w.heap.size + 1) 1 #[.int .i64 x, .int .i64 y] _ rfl (by decide) (by (repeat' (first | (with_reducible assumption) | (with_reducible refine Row.at _ _ ?_; (simp; done)) | (with_reducible refine Row.alloc ?_ _) | (with_reducible refine Row.drew ?_) | (with_reducible refine Row.drewN ?_ _) | (with_reducible refine Row.other ?_ (by first | (simp; done) | (simp; omega) | omega) _) | (with_reducible refine Row.up ?_ (by with_reducible assumption)) | (with_reducible refine Row.chg ?_ (by with_reducible assumption) (by first | (simp; done) | (simp; omega)))))) pts1).mono ?_); rintro E w1 ⟨rfl, hu1⟩; rw [HF.out]))
    go_ret
    exact ⟨by rw [H.out]; rfl, by rw [H.out]; exact Left.same (by (repeat' (first | (with_reducible exact Up.refl _) | (with_reducible assumption) | (with_reducible refine Up.alloc ?_ _) | (with_reducible refine Up.drew ?_) | (with_reducible refine Up.drewN ?_ _) | (with_reducible refine Up.setCell ?_ ?_ _) | (with_reducible refine Up.call ?_ (by with_reducible assumption)) | go_size))) HP.out⟩

end Go.Proofs.Yteddlahklilncaa.Path
