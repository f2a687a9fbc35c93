/- Sound segments, drawn one by one, are these again. No program in sight; no condition. Clear, Copy, and Move onto a MoveTo. -/
import Derived.Test.YtoflafbhfoncmaaDoorPathM2
import Derived.Test.YtoflafbhfoncmaaDoorGPathW7
import Derived.Deep.RegionHeld3
section
namespace Go.Proofs.YtoflafbhfoncmaaDoor.PathM

theorem soundFrom_of {l : List Seg} (h : sound l = true) : soundFrom 0 l = true := by unfold sound at h; simp at h; exact h.2
theorem sound_len {l : List Seg} (h : sound l = true) : l.length ≤ 4096 := by unfold sound at h; simp at h; exact h.1
theorem add_one (l : List Seg) (k : Nat) (s : Seg) (s0 n0 to : Pt) (hg : l[k]? = some s) : St.add ⟨l.length, l.take k, s0, n0⟩ to [s] = (⟨l.length, l.take (k + 1), s0, to⟩, 0) := by
  have hk := (List.getElem?_eq_some_iff.1 hg).1
  unfold St.add
  rw [if_neg (by simp; omega), take_succ_of hg]
theorem draw_step {l : List Seg} {k : Nat} {s : Seg} (s0 n0 : Pt) (hs : sound l = true) (hg : l[k]? = some s) :
    (s.k = 1 ∧ lastK (l.take k) ≠ 1 ∧ St.move ⟨l.length, l.take k, s0, n0⟩ s.a = (⟨l.length, l.take (k + 1), s.a, s.a⟩, 0)) ∨
    (s.k = 2 ∧ St.line ⟨l.length, l.take k, s0, n0⟩ s.a = (⟨l.length, l.take (k + 1), s0, s.a⟩, 0)) ∨
    (s.k = 3 ∧ St.curve ⟨l.length, l.take k, s0, n0⟩ s.a s.b s.c = (⟨l.length, l.take (k + 1), s0, s.c⟩, 0)) ∨
    (s.k = 4 ∧ St.close ⟨l.length, l.take k, s0, n0⟩ = (⟨l.length, l.take (k + 1), s0, s0⟩, 0)) := by
  have h := soundFrom_at (soundFrom_of hs) hg
  obtain ⟨kk, a, b, c⟩ := s
  unfold soundSeg at h
  simp only [Bool.and_eq_true, decide_eq_true_eq, Bool.not_eq_true', Seg.pts] at h
  obtain ⟨hp, hf, ha, hz⟩ := h
  simp only [List.all_cons, List.all_nil, Bool.and_true, Bool.and_eq_true] at ha
  obtain ⟨fa, fb, fc⟩ := ha
  rcases points_cases hp with ⟨rfl, hn⟩ | ⟨rfl, hn⟩ | ⟨rfl, hn⟩ | ⟨rfl, hn⟩
  · left
    rw [hn] at hz
    simp [nz] at hz
    obtain ⟨rfl, rfl⟩ := hz
    have hl : lastK (l.take k) ≠ 1 := by simpa [follows] using hf
    refine ⟨rfl, hl, ?_⟩
    unfold St.move
    have e := add_one l k ⟨1, a, Z, Z⟩ s0 n0 a hg
    rw [if_pos fa, if_neg hl, e, if_pos rfl]
  · right; left
    rw [hn] at hz
    simp [nz] at hz
    obtain ⟨rfl, rfl⟩ := hz
    simp [follows] at hf
    refine ⟨rfl, ?_⟩
    unfold St.line St.draw
    rw [if_pos fa, if_neg hf.1, if_neg hf.2]
    exact add_one l k ⟨2, a, Z, Z⟩ s0 n0 a hg
  · right; right; left
    simp [follows] at hf
    refine ⟨rfl, ?_⟩
    unfold St.curve St.draw
    rw [if_pos (by simp [fa, fb, fc]), if_neg hf.1, if_neg hf.2]
    exact add_one l k ⟨3, a, b, c⟩ s0 n0 c hg
  · right; right; right
    rw [hn] at hz
    simp [nz] at hz
    obtain ⟨rfl, rfl, rfl⟩ := hz
    simp [follows] at hf
    refine ⟨rfl, ?_⟩
    unfold St.close
    rw [if_neg hf.1, if_neg hf.2]
    exact add_one l k ⟨4, Z, Z, Z⟩ s0 n0 s0 hg

end Go.Proofs.YtoflafbhfoncmaaDoor.PathM
end

section
namespace Go.Proofs.YtoflafbhfoncmaaDoor.Path
open Go.ChangeShapes Go.WideShapes Go.ChangeAt Go.RowKit
open Go.Proofs.YtoflafbhfoncmaaDoor.FixM (fits)
open Go.Proofs.YtoflafbhfoncmaaDoor.PathM
set_option linter.unusedVariables false
set_option linter.unusedSimpArgs false

theorem cast {w : World} {b : Nat} {cs cs2 : Array Value} (h : Row w b cs) (e : cs = cs2) : Row w b cs2 := e ▸ h

theorem Segs.val {w : World} {v : Value} {l : List Seg} (h : Segs w v l) : ∃ a c, v = .slice a l.length c := by
  rcases h.form with ⟨rfl, rfl⟩ | ⟨g, cap, rfl, _⟩
  · exact ⟨_, _, rfl⟩
  · exact ⟨_, _, rfl⟩

set_option maxRecDepth 4000 in
theorem clear_calls (b : Nat) (v : Value) (t : St) (w : World) (h : PathIs w b v t) :
    Calls Tryd.prog 35 #[.pointer (some ⟨b, 0, none⟩)] w fun E w' => E = .returned (.tuple #[]) ∧ PathIs w' b (.slice none 0 0) ⟨t.most, [], Z, Z⟩ ∧ Chg [b] w w' := by
  have hlt := h.row.lt
  have R := h.row
  have q1 : w.cell? ⟨b, 1, none⟩ = some v := h.row.cell 1 rfl
  have q2 : w.cell? ⟨b, 2, none⟩ = some (.int .i64 t.s.1) := h.row.cell 2 rfl
  have q3 : w.cell? ⟨b, 3, none⟩ = some (.int .i64 t.s.2) := h.row.cell 3 rfl
  have q4 : w.cell? ⟨b, 4, none⟩ = some (.int .i64 t.n.1) := h.row.cell 4 rfl
  have q5 : w.cell? ⟨b, 5, none⟩ = some (.int .i64 t.n.2) := h.row.cell 5 rfl
  have f1 := h.row.free 1
  have f2 := h.row.free 2
  have f3 := h.row.free 3
  have f4 := h.row.free 4
  have f5 := h.row.free 5
  clear h
  go_enter Tryd.func35, Tryd.ntmps35
  go_wp2
  go_returns
  exact ⟨rfl, ⟨(by apply cast; (case h => (repeat (first | (with_reducible first | assumption | (apply Row.at; (simp; done)) | apply Row.alloc | apply Row.drew | apply Row.drewN | apply Row.set) | ((with_reducible apply Row.other); (case hp => first | (simp; done) | (simp; omega) | omega))))); (case e => rfl)), World.ownsRow_nil _ _ _ _, Nat.zero_le _⟩, by (repeat' (first | (with_reducible first | exact Chg.refl _ _ | assumption | refine Chg.alloc ?_ _ | refine Chg.drew ?_ | refine Chg.drewN ?_ _ | refine Chg.setCell ?_ ?_ _ | refine Chg.upc ?_ (by assumption) | refine Chg.call ?_ (by assumption) ?_) | (refine Or.inl ?_; (simp; done)) | (simp; done) | (simp; omega) | omega))⟩

set_option maxRecDepth 8000 in
set_option maxHeartbeats 1000000 in
theorem copy_calls (b : Nat) (v : Value) (t : St) (w : World) (h : PathIs w b v t) :
    Calls Tryd.prog 56 #[.pointer (some ⟨b, 0, none⟩)] w fun E w' => ∃ b' v', E = .returned (.pointer (some ⟨b', 0, none⟩)) ∧ w.heap.size ≤ b' ∧ PathIs w' b' v' t ∧ Up w w' ∧ ∀ g, v'.ownBlock = some g → w.heap.size ≤ g := by
  have hlt := h.row.lt
  have HR := Lib.hid h.row
  have HS := Lib.hid h.segs
  have HL := Lib.hid h.len
  have q0 : w.cell? ⟨b, 0, none⟩ = some (.int .i64 t.most) := h.row.cell 0 rfl
  have q1 : w.cell? ⟨b, 1, none⟩ = some v := h.row.cell 1 rfl
  have q2 : w.cell? ⟨b, 2, none⟩ = some (.int .i64 t.s.1) := h.row.cell 2 rfl
  have q3 : w.cell? ⟨b, 3, none⟩ = some (.int .i64 t.s.2) := h.row.cell 3 rfl
  have q4 : w.cell? ⟨b, 4, none⟩ = some (.int .i64 t.n.1) := h.row.cell 4 rfl
  have q5 : w.cell? ⟨b, 5, none⟩ = some (.int .i64 t.n.2) := h.row.cell 5 rfl
  have hlen := h.len
  have hb1 : b < w.heap.size + 1 := by omega
  obtain ⟨ao, cap, rfl⟩ := h.form
  clear h
  go_enter Tryd.func56, Tryd.ntmps56
  go_wp2
  go_region_held3 (fun w' => w'.cell? ⟨b, 0, none⟩ = some (.int .i64 t.most) ∧ w'.cell? ⟨b, 1, none⟩ = some (.slice ao t.l.length cap) ∧ w'.cell? ⟨b, 2, none⟩ = some (.int .i64 t.s.1) ∧ w'.cell? ⟨b, 3, none⟩ = some (.int .i64 t.s.2) ∧ w'.cell? ⟨b, 4, none⟩ = some (.int .i64 t.n.1) ∧ w'.cell? ⟨b, 5, none⟩ = some (.int .i64 t.n.2)) (first | with_reducible exact ⟨p0, p1, p2, p3, p4, p5⟩ | with_reducible exact ⟨q0, q1, q2, q3, q4, q5⟩ | go_keep) (first
    | (go_at_call 39; ((with_reducible refine (clone_calls _ t.l _ (HS.out.chg (S := []) (Chg.of_up (by (repeat' (first | (with_reducible first | exact Up.refl _ | assumption | refine Up.alloc ?_ _ | refine Up.drew ?_ | refine Up.drewN ?_ _ | refine Up.setCell ?_ ?_ _ | refine Up.call ?_ (by assumption)) | go_size)))) (by simp)) hlen).mono ?_); rintro E w1 ⟨v1, rfl, h1, h2, h3⟩; obtain ⟨a1, c1, rfl⟩ := Segs.val h1; have hu1 : Up w w1 := (by (repeat' (first | (with_reducible first | exact Up.refl _ | assumption | refine Up.alloc ?_ _ | refine Up.drew ?_ | refine Up.drewN ?_ _ | refine Up.setCell ?_ ?_ _ | refine Up.call ?_ (by assumption)) | go_size))); have r1 := HR.out.up hu1; have p0 : w1.cell? ⟨b, 0, none⟩ = some (.int .i64 t.most) := r1.cell 0 rfl; have p1 : w1.cell? ⟨b, 1, none⟩ = some (.slice ao t.l.length cap) := r1.cell 1 rfl; have p2 : w1.cell? ⟨b, 2, none⟩ = some (.int .i64 t.s.1) := r1.cell 2 rfl; have p3 : w1.cell? ⟨b, 3, none⟩ = some (.int .i64 t.s.2) := r1.cell 3 rfl; have p4 : w1.cell? ⟨b, 4, none⟩ = some (.int .i64 t.n.1) := r1.cell 4 rfl; have p5 : w1.cell? ⟨b, 5, none⟩ = some (.int .i64 t.n.2) := r1.cell 5 rfl; have hl1 := r1.lt; have hl2 : b < w1.heap.size + 1 := (by omega); have H1 := Lib.hid h1; have H3 := Lib.hid h3; clear h1 h3)))
  all_goals go_wp2
  all_goals
    go_ret
    exact ⟨w1.heap.size, _, rfl, hu1.size, ⟨(show Row _ w1.heap.size #[.int .i64 t.most, .slice a1 t.l.length c1, .int .i64 t.s.1, .int .i64 t.s.2, .int .i64 t.n.1, .int .i64 t.n.2] by (repeat' (with_reducible first | assumption | (refine Row.at _ _ ?_; (simp; done)) | refine Row.alloc ?_ _ | refine Row.drew ?_ | refine Row.drewN ?_ _ | refine Row.other ?_ (by first | (simp; done) | (simp; omega) | omega) _ | refine Row.up ?_ (by assumption) | refine Row.chg ?_ (by assumption) (by first | (simp; done) | (simp; omega))))), H1.out.chg (S := []) (Chg.of_up (by (repeat' (first | (with_reducible first | exact Up.refl _ | assumption | refine Up.alloc ?_ _ | refine Up.drew ?_ | refine Up.drewN ?_ _ | refine Up.setCell ?_ ?_ _ | refine Up.call ?_ (by assumption)) | go_size)))) (by simp), HL.out⟩, by (repeat' (first | (with_reducible first | exact Up.refl _ | assumption | refine Up.alloc ?_ _ | refine Up.drew ?_ | refine Up.drewN ?_ _ | refine Up.setCell ?_ ?_ _ | refine Up.call ?_ (by assumption)) | go_size)), H3.out⟩

theorem own_drew {w : World} {base : Nat} {e : TypeId} {k n : Nat} {v : Value} {xs : List Value} (h : w.ownsRow base e k v n xs) : w.drew.ownsRow base e k v n xs := h

theorem segCells_setLast (l : List Seg) (k : Nat) (s : Seg) (h : l.length = k + 1) :
    ((((((((segCells l).set (k * 7) (.int .i64 s.k)).set (k * 7 + 1) (.int .i64 s.a.1)).set (k * 7 + 2) (.int .i64 s.a.2)).set (k * 7 + 3) (.int .i64 s.b.1)).set (k * 7 + 4) (.int .i64 s.b.2)).set (k * 7 + 5) (.int .i64 s.c.1)).set (k * 7 + 6) (.int .i64 s.c.2)) = segCells (l.dropLast ++ [s]) := by
  have hne : l ≠ [] := fun e => by rw [e] at h; cases h
  have hd : l.dropLast.length = k := by rw [List.length_dropLast, h]; rfl
  conv => lhs; rw [← List.dropLast_concat_getLast hne]
  generalize l.getLast hne = z
  rw [segCells_append, segCells_append]
  have hA : (segCells l.dropLast).length = k * 7 := by rw [segCells_length, hd]
  generalize segCells l.dropLast = A at hA
  have e : ∀ (B : List Value) (r : Nat) (u : Value), (A ++ B).set (k * 7 + r) u = A ++ B.set r u := fun B r u => by
    rw [List.set_append_right _ _ (by omega)]
    congr 2
    omega
  have e0 : ∀ (B : List Value) (u : Value), (A ++ B).set (k * 7) u = A ++ B.set 0 u := fun B u => e B 0 u
  rw [e0, e, e, e, e, e, e]
  rfl

set_option maxRecDepth 8000 in
set_option maxHeartbeats 2000000 in
theorem move_onto (b : Nat) (v : Value) (t : St) (x y : Int) (w : World) (h : PathIs w b v t) (hL1 : lastK t.l = 1) :
    Calls Tryd.prog 36 #[.pointer (some ⟨b, 0, none⟩), .agg #[.int .i64 x, .int .i64 y]] w fun E w' => E = .returned (.int .i64 (t.move (x, y)).2) ∧ Left w b v (t.move (x, y)).1 w' := by
  have HP := Lib.hid h
  have hlt := h.row.lt
  have hlen := h.len
  have hap := h.apart
  rcases h.segs.form with ⟨rfl, hl⟩ | ⟨g, cap, rfl, hn, hm, hg⟩
  · rw [hl] at hL1; cases hL1
  have hgb : g ≠ b := hap g rfl
  have hgb' : ¬ g = b := hgb
  have hbg' : ¬ b = g := fun e => hgb e.symm
  obtain ⟨k, hk⟩ : ∃ k, t.l.length = k + 1 := ⟨t.l.length - 1, by
    have : t.l ≠ [] := fun e => by rw [e] at hL1; cases hL1
    have := List.length_pos_iff.2 this
    omega⟩
  have HSG := Lib.hid (show w.ownsRow 0 55 7 (.slice (some ⟨g, 0, none⟩) (k + 1) cap) (k + 1) (segCells t.l) from by have := h.segs; unfold Segs at this; rwa [hk] at this)
  have q1 : w.cell? ⟨b, 1, none⟩ = some (.slice (some ⟨g, 0, none⟩) (k + 1) cap) := by have := h.row.cell 1 rfl; rwa [hk] at this
  have q2 : w.cell? ⟨b, 2, none⟩ = some (.int .i64 t.s.1) := h.row.cell 2 rfl
  have q3 : w.cell? ⟨b, 3, none⟩ = some (.int .i64 t.s.2) := h.row.cell 3 rfl
  have q4 : w.cell? ⟨b, 4, none⟩ = some (.int .i64 t.n.1) := h.row.cell 4 rfl
  have q5 : w.cell? ⟨b, 5, none⟩ = some (.int .i64 t.n.2) := h.row.cell 5 rfl
  have HE : Hid (∀ r, r < 7 → ∃ u, w.cell? ⟨g, k * 7 + r, none⟩ = some u) := Lib.hid (fun r hr => ⟨_, (HSG.out.cellAt _ (by omega)).trans (List.getElem?_eq_getElem (by rw [segCells_length, hk]; omega))⟩)
  have HFR := Lib.hid h.row
  clear h hap
  by_cases hf : [(x, y)].all fitsP = true
  · have HF := Lib.hid hf
    have HLK := Lib.hid hL1
    have H := Lib.hid (show t.move (x, y) = ({ t with l := t.l.dropLast ++ [⟨1, (x, y), Z, Z⟩], s := (x, y), n := (x, y) }, 0) by
      unfold St.move
      rw [if_pos (by simpa using hf), if_pos hL1])
    obtain ⟨u0, e0⟩ := HE.out 0 (by decide)
    obtain ⟨u1, e1⟩ := HE.out 1 (by decide)
    obtain ⟨u2, e2⟩ := HE.out 2 (by decide)
    obtain ⟨u3, e3⟩ := HE.out 3 (by decide)
    obtain ⟨u4, e4⟩ := HE.out 4 (by decide)
    obtain ⟨u5, e5⟩ := HE.out 5 (by decide)
    obtain ⟨u6, e6⟩ := HE.out 6 (by decide)
    rw [Nat.add_zero] at e0
    clear hf hL1
    go_enter Tryd.func36, Tryd.ntmps36
    go_wp2_with (first
      | (go_at_call 52; ((with_reducible refine (fits_calls2 [(x, y)] 1 (w.heap.size + 1) 1 #[.int .i64 x, .int .i64 y] _ rfl (by decide) (by (repeat' (with_reducible first | assumption | (refine Row.at _ _ ?_; (simp; done)) | refine Row.alloc ?_ _ | refine Row.drew ?_ | refine Row.drewN ?_ _ | refine Row.other ?_ (by first | (simp; done) | (simp; omega) | omega) _ | refine Row.up ?_ (by assumption) | refine Row.chg ?_ (by assumption) (by first | (simp; done) | (simp; omega))))) pts1).mono ?_); rintro E w1 ⟨rfl, hu1⟩; rw [HF.out]; have hz1 := hu1.size; simp at hz1; have r0 : Row w1 w.heap.size #[.int .i64 x, .int .i64 y] := Row.up (by (repeat' (with_reducible first | assumption | (refine Row.at _ _ ?_; (simp; done)) | refine Row.alloc ?_ _ | refine Row.drew ?_ | refine Row.drewN ?_ _ | refine Row.other ?_ (by first | (simp; done) | (simp; omega) | omega) _ | refine Row.up ?_ (by assumption) | refine Row.chg ?_ (by assumption) (by first | (simp; done) | (simp; omega))))) hu1; have q00 : w1.cell? ⟨w.heap.size, 0, none⟩ = some (.int .i64 x) := r0.cell 0 rfl; have q01 : w1.cell? ⟨w.heap.size, 1, none⟩ = some (.int .i64 y) := r0.cell 1 rfl; have l0 := r0.lt))
      | (go_at_call 53; ((with_reducible refine (last_calls b (.slice (some ⟨g, 0, none⟩) t.l.length cap) t _ (HP.out.up (by (repeat' (first | (with_reducible first | exact Up.refl _ | assumption | refine Up.alloc ?_ _ | refine Up.drew ?_ | refine Up.drewN ?_ _ | refine Up.setCell ?_ ?_ _ | refine Up.call ?_ (by assumption)) | go_size))))).mono ?_); rintro E w2 ⟨rfl, hu2⟩; rw [HLK.out]; have hz2 := hu2.size; simp at hz2; have r20 : Row w2 w.heap.size #[.int .i64 x, .int .i64 y] := Row.up (by (repeat' (with_reducible first | assumption | (refine Row.at _ _ ?_; (simp; done)) | refine Row.alloc ?_ _ | refine Row.drew ?_ | refine Row.drewN ?_ _ | refine Row.other ?_ (by first | (simp; done) | (simp; omega) | omega) _ | refine Row.up ?_ (by assumption) | refine Row.chg ?_ (by assumption) (by first | (simp; done) | (simp; omega))))) hu2; have r21 : Row w2 w1.heap.size #[.int .i64 1, .int .i64 x, .int .i64 y, .int .i64 0, .int .i64 0, .int .i64 0, .int .i64 0] := Row.up (by (repeat' (with_reducible first | assumption | (refine Row.at _ _ ?_; (simp; done)) | refine Row.alloc ?_ _ | refine Row.drew ?_ | refine Row.drewN ?_ _ | refine Row.other ?_ (by first | (simp; done) | (simp; omega) | omega) _ | refine Row.up ?_ (by assumption) | refine Row.chg ?_ (by assumption) (by first | (simp; done) | (simp; omega))))) hu2; have s0 : w2.cell? ⟨w1.heap.size, 0, none⟩ = some (.int .i64 1) := r21.cell 0 rfl; have s1 : w2.cell? ⟨w1.heap.size, 1, none⟩ = some (.int .i64 x) := r21.cell 1 rfl; have s2 : w2.cell? ⟨w1.heap.size, 2, none⟩ = some (.int .i64 y) := r21.cell 2 rfl; have s3 : w2.cell? ⟨w1.heap.size, 3, none⟩ = some (.int .i64 0) := r21.cell 3 rfl; have s4 : w2.cell? ⟨w1.heap.size, 4, none⟩ = some (.int .i64 0) := r21.cell 4 rfl; have s5 : w2.cell? ⟨w1.heap.size, 5, none⟩ = some (.int .i64 0) := r21.cell 5 rfl; have s6 : w2.cell? ⟨w1.heap.size, 6, none⟩ = some (.int .i64 0) := r21.cell 6 rfl; have p0 : w2.cell? ⟨w.heap.size, 0, none⟩ = some (.int .i64 x) := r20.cell 0 rfl; have p1 : w2.cell? ⟨w.heap.size, 1, none⟩ = some (.int .i64 y) := r20.cell 1 rfl; have l20 := r20.lt; have l21 := r21.lt; have hv2 : Up w w2 := (by (repeat' (first | (with_reducible first | exact Up.refl _ | assumption | refine Up.alloc ?_ _ | refine Up.drew ?_ | refine Up.drewN ?_ _ | refine Up.setCell ?_ ?_ _ | refine Up.call ?_ (by assumption)) | go_size))); have b1 := (hv2.cells.1 b 1 hlt).trans q1; have b2 := (hv2.cells.1 b 2 hlt).trans q2; have b3 := (hv2.cells.1 b 3 hlt).trans q3; have b4 := (hv2.cells.1 b 4 hlt).trans q4; have b5 := (hv2.cells.1 b 5 hlt).trans q5; have g0 := (hv2.cells.1 g (k * 7) hg).trans e0; have z0 : w2.frozen? ⟨g, k * 7, none⟩ = false := (hv2.cells.2 g (k * 7) hg).trans (HSG.out.frozenAt _); have g1 := (hv2.cells.1 g (k * 7 + 1) hg).trans e1; have z1 : w2.frozen? ⟨g, k * 7 + 1, none⟩ = false := (hv2.cells.2 g (k * 7 + 1) hg).trans (HSG.out.frozenAt _); have g2 := (hv2.cells.1 g (k * 7 + 2) hg).trans e2; have z2 : w2.frozen? ⟨g, k * 7 + 2, none⟩ = false := (hv2.cells.2 g (k * 7 + 2) hg).trans (HSG.out.frozenAt _); have g3 := (hv2.cells.1 g (k * 7 + 3) hg).trans e3; have z3 : w2.frozen? ⟨g, k * 7 + 3, none⟩ = false := (hv2.cells.2 g (k * 7 + 3) hg).trans (HSG.out.frozenAt _); have g4 := (hv2.cells.1 g (k * 7 + 4) hg).trans e4; have z4 : w2.frozen? ⟨g, k * 7 + 4, none⟩ = false := (hv2.cells.2 g (k * 7 + 4) hg).trans (HSG.out.frozenAt _); have g5 := (hv2.cells.1 g (k * 7 + 5) hg).trans e5; have z5 : w2.frozen? ⟨g, k * 7 + 5, none⟩ = false := (hv2.cells.2 g (k * 7 + 5) hg).trans (HSG.out.frozenAt _); have g6 := (hv2.cells.1 g (k * 7 + 6) hg).trans e6; have z6 : w2.frozen? ⟨g, k * 7 + 6, none⟩ = false := (hv2.cells.2 g (k * 7 + 6) hg).trans (HSG.out.frozenAt _); have y2 : w2.frozen? ⟨b, 2, none⟩ = false := (hv2.cells.2 b 2 hlt).trans (HFR.out.free 2); have y3 : w2.frozen? ⟨b, 3, none⟩ = false := (hv2.cells.2 b 3 hlt).trans (HFR.out.free 3); have y4 : w2.frozen? ⟨b, 4, none⟩ = false := (hv2.cells.2 b 4 hlt).trans (HFR.out.free 4); have y5 : w2.frozen? ⟨b, 5, none⟩ = false := (hv2.cells.2 b 5 hlt).trans (HFR.out.free 5); have lb := Nat.lt_of_lt_of_le hlt hv2.size; have lg := Nat.lt_of_lt_of_le hg hv2.size; have nw1 : ¬ w1.heap.size = g := (by have := hu1.size; simp at this; omega); have nw2 : ¬ w.heap.size = g := (by omega); have nw3 : ¬ w1.heap.size = b := (by have := hu1.size; simp at this; omega); have nw4 : ¬ w.heap.size = b := (by omega); have nx1 : ¬ g = w1.heap.size := (fun e => nw1 e.symm); have nx2 : ¬ g = w.heap.size := (fun e => nw2 e.symm); have nx3 : ¬ b = w1.heap.size := (fun e => nw3 e.symm); have nx4 : ¬ b = w.heap.size := (fun e => nw4 e.symm))))
    go_region
    go_wp2
    go_region
    go_wp2
    go_ret
    refine ⟨by rw [H.out]; rfl, ?_⟩
    rw [H.out]
    have R2 : Row w2 b #[.int .i64 t.most, .slice (some ⟨g, 0, none⟩) (k + 1) cap, .int .i64 t.s.1, .int .i64 t.s.2, .int .i64 t.n.1, .int .i64 t.n.2] := by
      have := HFR.out.up hv2
      rwa [hk] at this
    have O2 : w2.ownsRow 0 55 7 (.slice (some ⟨g, 0, none⟩) (k + 1) cap) (k + 1) (segCells t.l) := by
      have := HP.out.segs.chg (S := []) (Chg.of_up hv2) (by simp)
      unfold Segs at this
      rwa [hk] at this
    have hlen2 : (t.l.dropLast ++ [(⟨1, (x, y), Z, Z⟩ : Seg)]).length = k + 1 := by simp [hk]
    refine ⟨.slice (some ⟨g, 0, none⟩) (k + 1) cap, ⟨(by apply cast; (case h => (repeat (first | (with_reducible first | assumption | (apply Row.at; (simp; done)) | apply Row.alloc | apply Row.drew | apply Row.drewN | apply Row.set) | ((with_reducible apply Row.other); (case hp => first | (simp; done) | (simp; omega) | omega))))); (case e => rfl)), ?_, by show (t.l.dropLast ++ [(⟨1, (x, y), Z, Z⟩ : Seg)]).length ≤ 100000000; omega⟩, ?_, fun g' hg' => Or.inl hg'⟩
    · show World.ownsRow _ 0 _ 7 _ (t.l.dropLast ++ [(⟨1, (x, y), Z, Z⟩ : Seg)]).length (segCells (t.l.dropLast ++ [(⟨1, (x, y), Z, Z⟩ : Seg)]))
      rw [hlen2, ← segCells_setLast t.l k ⟨1, (x, y), Z, Z⟩ hk]
      have hne : ∀ i, (Value.slice (some ⟨g, 0, none⟩) (k + 1) cap).ownBlock ≠ some (⟨b, i, none⟩ : Addr).block := fun i e => by
        simp only [Value.ownBlock, Option.some.injEq] at e
        exact hgb e
      refine own_drew (own_drew ?_)
      refine ownsRow_setCell_other (ownsRow_setCell_other (ownsRow_setCell_other (ownsRow_setCell_other ?_ (hne 2) _) (hne 3) _) (hne 4) _) (hne 5) _
      exact ((((((((O2.stored (k * 7) _).1.stored (k * 7 + 1) _).1.stored (k * 7 + 2) _).1.stored (k * 7 + 3) _).1.stored (k * 7 + 4) _).1.stored (k * 7 + 5) _).1.stored (k * 7 + 6) _).1)
    · show Chg [b, g] w _
      (repeat' (first | (with_reducible first | exact Chg.refl _ _ | assumption | refine Chg.alloc ?_ _ | refine Chg.drew ?_ | refine Chg.drewN ?_ _ | refine Chg.setCell ?_ ?_ _ | refine Chg.upc ?_ (by assumption) | refine Chg.call ?_ (by assumption) ?_) | (refine Or.inl ?_; (simp; done)) | (simp; done) | (simp; omega) | omega))
  · have HF := Lib.hid (show [(x, y)].all fitsP = false by simpa using hf)
    have H := Lib.hid (show t.move (x, y) = (t, 11) by
      unfold St.move
      rw [if_neg (by simpa using hf)])
    clear hf
    go_enter Tryd.func36, Tryd.ntmps36
    go_wp2_with (go_at_call 52; ((with_reducible refine (fits_calls2 [(x, y)] 1 (w.heap.size + 1) 1 #[.int .i64 x, .int .i64 y] _ rfl (by decide) (by (repeat' (with_reducible first | assumption | (refine Row.at _ _ ?_; (simp; done)) | refine Row.alloc ?_ _ | refine Row.drew ?_ | refine Row.drewN ?_ _ | refine Row.other ?_ (by first | (simp; done) | (simp; omega) | omega) _ | refine Row.up ?_ (by assumption) | refine Row.chg ?_ (by assumption) (by first | (simp; done) | (simp; omega))))) pts1).mono ?_); rintro E w1 ⟨rfl, hu1⟩; rw [HF.out]))
    go_ret
    exact ⟨by rw [H.out]; rfl, by rw [H.out]; exact Left.same (by (repeat' (first | (with_reducible first | exact Up.refl _ | assumption | refine Up.alloc ?_ _ | refine Up.drew ?_ | refine Up.drewN ?_ _ | refine Up.setCell ?_ ?_ _ | refine Up.call ?_ (by assumption)) | go_size))) HP.out⟩

end Go.Proofs.YtoflafbhfoncmaaDoor.Path
end
