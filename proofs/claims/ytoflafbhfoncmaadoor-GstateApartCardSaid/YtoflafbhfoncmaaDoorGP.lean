/- A path in memory, and what its last segment is. Segments are added to a path. A path is drawn on. Line, Curve, Close, and what a nil path returns. A path's copy, its segments, where it is, and an empty one. -/
import Derived.Test.YtoflafbhfoncmaaDoorPathW
import Derived.BigQuiet
import Derived.Deep.QuietTactic
import Derived.Test.YtoflafbhfoncmaaDoorArgs
import Derived.Deep.AppendLies
import Derived.Deep.RegionHeld3
import Derived.Maps.AppendAt
import Derived.Lib.SliceRun
section
namespace Go.Proofs.YtoflafbhfoncmaaDoor.Path
open Go.ChangeShapes Go.WideShapes Go.ChangeAt Go.RowKit
open Go.Proofs.YtoflafbhfoncmaaDoor.FixM (fits)
open Go.Proofs.YtoflafbhfoncmaaDoor.PathM
set_option linter.unusedVariables false
set_option linter.unusedSimpArgs false

/-- segments that a slice owns -/
abbrev Segs (w : World) (v : Value) (l : List Seg) : Prop := w.ownsRow 0 55 7 v l.length (segCells l)
def own (v : Value) : List Nat := match v.ownBlock with | some g => [g] | none => []
theorem own_mem {v : Value} {g : Nat} (h : v.ownBlock = some g) : g ∈ own v := by simp [own, h]
theorem own_of {v : Value} {g : Nat} (h : g ∈ own v) : v.ownBlock = some g := by
  unfold own at h
  split at h
  · simp only [List.mem_singleton] at h; subst h; assumption
  · simp at h
theorem Segs.form {w : World} {v : Value} {l : List Seg} (h : Segs w v l) : (v = .slice none 0 0 ∧ l = []) ∨ ∃ g cap, v = .slice (some ⟨g, 0, none⟩) l.length cap ∧ l.length ≤ cap ∧ cap ≤ maxLen ∧ g < w.heap.size := by
  rcases h.2 with ⟨h1, h2⟩ | ⟨g, cap, cur, hv, _, hg, hn, hm, _⟩
  · exact Or.inl ⟨h1, List.eq_nil_of_length_eq_zero h2⟩
  · exact Or.inr ⟨g, cap, hv, hn, hm, (Array.getElem?_eq_some_iff.1 hg).1⟩
theorem Segs.at {w : World} {g cap : Nat} {l : List Seg} (h : Segs w (.slice (some ⟨g, 0, none⟩) l.length cap) l) (i : Nat) (s : Seg) (hi : l[i]? = some s) (j : Nat) (hj : j < 7) (u : Value) (hu : s.cells[j]? = some u) :
    w.cell? ⟨g, i * 7 + j, none⟩ = some u := by
  have h1 : i < l.length := (List.getElem?_eq_some_iff.1 hi).1
  rw [h.cellAt (i * 7 + j) (by omega), segCells_at l i s j hi hj, hu]
theorem Segs.free {w : World} {g cap : Nat} {l : List Seg} (h : Segs w (.slice (some ⟨g, 0, none⟩) l.length cap) l) (i : Nat) : w.frozen? ⟨g, i, none⟩ = false := h.frozenAt i
theorem Segs.chg {S : List Nat} {w w1 : World} {v : Value} {l : List Seg} (h : Segs w v l) (hc : Chg S w w1) (hn : ∀ g, v.ownBlock = some g → g ∉ S) : Segs w1 v l := by
  refine ⟨h.1, ?_⟩
  rcases h.2 with h1 | ⟨g, cap, cur, hv, hb, hg, hr⟩
  · exact Or.inl h1
  · refine Or.inr ⟨g, cap, cur, hv, hb, ?_, hr⟩
    rw [hc.block g (Array.getElem?_eq_some_iff.1 hg).1 (hn g (by rw [hv]; rfl))]
    exact hg

/-- a path in memory -/
structure PathIs (w : World) (b : Nat) (v : Value) (t : St) : Prop where
  row : Row w b #[.int .i64 t.most, v, .int .i64 t.s.1, .int .i64 t.s.2, .int .i64 t.n.1, .int .i64 t.n.2]
  segs : Segs w v t.l
  len : t.l.length ≤ 100000000
/-- its slice's block is another one -/
theorem PathIs.apart {w : World} {b : Nat} {v : Value} {t : St} (h : PathIs w b v t) : ∀ g, v.ownBlock = some g → g ≠ b := by
  intro g hg e
  obtain ⟨ty, hb⟩ := h.row
  rcases h.segs.2 with ⟨h1, _⟩ | ⟨g', cap, cur, hv, _, hg', _, _, hs, _⟩
  · rw [h1] at hg; cases hg
  · rw [hv] at hg
    simp only [Value.ownBlock, Option.some.injEq] at hg
    subst hg e
    rw [hb] at hg'
    simp only [Option.some.injEq, Obj.cells.injEq] at hg'
    have := hg'.1
    subst this
    simp at hs
    omega
theorem PathIs.chg {S : List Nat} {w w1 : World} {b : Nat} {v : Value} {t : St} (h : PathIs w b v t) (hc : Chg S w w1) (hb : b ∉ S) (hn : ∀ g, v.ownBlock = some g → g ∉ S) : PathIs w1 b v t :=
  ⟨h.row.chg hc hb, h.segs.chg hc hn, h.len⟩
theorem PathIs.up {w w1 : World} {b : Nat} {v : Value} {t : St} (h : PathIs w b v t) (hc : Up w w1) : PathIs w1 b v t := h.chg (S := []) (Chg.of_up hc) (by simp) (by simp)

theorem PathIs.form {w : World} {b : Nat} {v : Value} {t : St} (h : PathIs w b v t) : ∃ ao cap, v = .slice ao t.l.length cap := by
  rcases h.segs.form with ⟨rfl, hl⟩ | ⟨g, cap, rfl, _⟩
  · exact ⟨none, 0, by rw [hl]; rfl⟩
  · exact ⟨_, _, rfl⟩
/-- a slice's block is the old one, or a new one -/
def Own (w : World) (v v' : Value) : Prop := ∀ g, v'.ownBlock = some g → v.ownBlock = some g ∨ w.heap.size ≤ g
theorem Own.refl (w : World) (v : Value) : Own w v v := fun g h => Or.inl h
theorem Chg.grown {S : List Nat} {w a c : World} {r : Option Nat} (h : Chg S w a) (hg : a.grownBy c r) (hr : ∀ k, r = some k → k ∈ S ∨ w.heap.size ≤ k) : Chg S w c :=
  ⟨hg.os.trans h.os, hg.tape.trans h.tape, hg.output.trans h.output, Nat.le_trans h.size hg.size, fun k hk hn => by
    rw [hg.block k (Nat.lt_of_lt_of_le hk h.size) (fun e => (hr k e.symm).elim hn (fun h2 => by omega)), h.block k hk hn]⟩

theorem last_calls (b : Nat) (v : Value) (t : St) (w : World) (h : PathIs w b v t) :
    Calls Tryd.prog 53 #[.pointer (some ⟨b, 0, none⟩)] w fun e w' => e = .returned (.int .i64 (lastK t.l)) ∧ Up w w' := by
  have hq1 := h.row.cell 1 rfl
  have hlt := h.row.lt
  have hlen := h.len
  rcases h.segs.form with ⟨rfl, hl⟩ | ⟨g, cap, rfl, hn, hm, hg⟩
  · have H := Lib.hid (show lastK t.l = 0 by rw [hl]; rfl)
    clear h
    go_enter Tryd.func53, Tryd.ntmps53
    go_wp2
    go_ret
    exact ⟨by rw [H.out]; rfl, by (repeat' (first | (with_reducible first | exact Up.refl _ | assumption | refine Up.alloc ?_ _ | refine Up.drew ?_ | refine Up.drewN ?_ _ | refine Up.setCell ?_ ?_ _ | refine Up.call ?_ (by assumption)) | go_size))⟩
  · by_cases h0 : t.l.length = 0
    · have H := Lib.hid (show lastK t.l = 0 by rw [List.eq_nil_of_length_eq_zero h0]; rfl)
      clear h
      rw [h0] at hq1
      go_enter Tryd.func53, Tryd.ntmps53
      go_wp2
      go_ret
      exact ⟨by rw [H.out]; rfl, by (repeat' (first | (with_reducible first | exact Up.refl _ | assumption | refine Up.alloc ?_ _ | refine Up.drew ?_ | refine Up.drewN ?_ _ | refine Up.setCell ?_ ?_ _ | refine Up.call ?_ (by assumption)) | go_size))⟩
    · obtain ⟨k, hk⟩ : ∃ k, t.l.length = k + 1 := ⟨t.l.length - 1, by omega⟩
      obtain ⟨s, hs⟩ : ∃ s, t.l[k]? = some s := ⟨t.l[k], List.getElem?_eq_getElem (by omega)⟩
      have hc := h.segs.at k s hs 0 (by decide) _ rfl
      rw [Nat.add_zero] at hc
      have H := Lib.hid (show lastK t.l = s.k by
        unfold lastK
        rw [List.getLast?_eq_getElem?, hk, Nat.add_sub_cancel, hs])
      clear h
      rw [hk] at hq1 hn hlen
      clear h0 hk hs
      go_enter Tryd.func53, Tryd.ntmps53
      go_wp2
      go_quiet (fail)
      go_wp2
      go_ret
      exact ⟨by rw [H.out]; rfl, by (repeat' (first | (with_reducible first | exact Up.refl _ | assumption | refine Up.alloc ?_ _ | refine Up.drew ?_ | refine Up.drewN ?_ _ | refine Up.setCell ?_ ?_ _ | refine Up.call ?_ (by assumption)) | go_size))⟩

end Go.Proofs.YtoflafbhfoncmaaDoor.Path
end

section
namespace Go.Proofs.YtoflafbhfoncmaaDoor.Path
open Go.ChangeShapes Go.WideShapes Go.ChangeAt Go.RowKit
open Go.Proofs.YtoflafbhfoncmaaDoor.FixM (fits)
open Go.Proofs.YtoflafbhfoncmaaDoor.PathM
set_option linter.unusedVariables false
set_option linter.unusedSimpArgs false

theorem infoSeg : (Tryd.prog.info? 55).map (fun i => (i.zero, i.size, i.bytes)) = some (some (.agg #[.int .i64 0, .int .i64 0, .int .i64 0, .int .i64 0, .int .i64 0, .int .i64 0, .int .i64 0]), 7, 56) := by kernel_rfl

set_option maxHeartbeats 1000000 in
theorem add_calls (b : Nat) (v : Value) (t : St) (to : Pt) (more : List Seg) (gm mc : Nat) (w : World) (h : PathIs w b v t) (hm0 : 0 < more.length) (hm : more.length ≤ 10) (hlen : t.l.length + more.length ≤ 100000000)
    (hgm : gm < w.heap.size) (hN : ∀ j u, (segCells more)[j]? = some u → w.cell? ⟨gm, j, none⟩ = some u) :
    Calls Tryd.prog 54 #[.pointer (some ⟨b, 0, none⟩), .agg #[.int .i64 to.1, .int .i64 to.2], .slice (some ⟨gm, 0, none⟩) more.length mc] w fun E w' =>
      E = .returned (.int .i64 (t.add to more).2) ∧ ∃ v', PathIs w' b v' (t.add to more).1 ∧ Chg (b :: own v) w w' ∧ Own w v v' := by
  have hq0 : w.cell? ⟨b, 0, none⟩ = some (.int .i64 t.most) := h.row.cell 0 rfl
  have hq1 : w.cell? ⟨b, 1, none⟩ = some v := h.row.cell 1 rfl
  have hlt := h.row.lt
  obtain ⟨x, y⟩ := to
  by_cases hc : t.most < (t.l.length : Int) + more.length
  · have H := Lib.hid (show t.add (x, y) more = (t, 9) by unfold St.add; rw [if_pos hc])
    have dc : decide (t.most < (t.l.length : Int) + more.length) = true := decide_eq_true hc
    have HH := Lib.hid h
    obtain ⟨ao, cap, rfl⟩ := h.form
    clear h hN
    go_enter Tryd.func54, Tryd.ntmps54
    go_wp2
    go_quiet (fail)
    go_wp2
    go_ret
    exact ⟨by rw [H.out]; rfl, _, by rw [H.out]; exact HH.out.up (by (repeat' (first | (with_reducible first | exact Up.refl _ | assumption | refine Up.alloc ?_ _ | refine Up.drew ?_ | refine Up.drewN ?_ _ | refine Up.setCell ?_ ?_ _ | refine Up.call ?_ (by assumption)) | go_size))), by (repeat' (first | (with_reducible first | exact Chg.refl _ _ | assumption | refine Chg.alloc ?_ _ | refine Chg.drew ?_ | refine Chg.drewN ?_ _ | refine Chg.setCell ?_ ?_ _ | refine Chg.upc ?_ (by assumption) | refine Chg.call ?_ (by assumption) ?_) | (refine Or.inl ?_; (simp; done)) | (simp; done) | (simp; omega) | omega)), Own.refl _ _⟩
  · have H := Lib.hid (show t.add (x, y) more = ({ t with l := t.l ++ more, n := (x, y) }, 0) by unfold St.add; rw [if_neg hc])
    have dc : decide (t.most < (t.l.length : Int) + more.length) = false := decide_eq_false hc
    have HH := Lib.hid h
    have HN := Lib.hid hN
    have ha := Lib.hid h.apart
    have hS := Lib.hid h.segs
    have hR := h.row
    obtain ⟨ao, cap, rfl⟩ := h.form
    obtain ⟨i0, hi, hz0, hz1, hz2⟩ := info_parts infoSeg
    clear h hN
    go_enter Tryd.func54, Tryd.ntmps54
    go_wp2
    go_quiet (fail)
    go_wp2_with (at_builtin; refine wpList_append_lies _ rfl _ _ 43 rfl 0 55 i0 _ 7 56 Tryd.underlying43 hi hz0 hz1 hz2 rfl (by decide) (.slice ao t.l.length cap) t.l.length (segCells t.l) rfl (hS.out.chg (S := []) (Chg.of_up (by (repeat' (first | (with_reducible first | exact Up.refl _ | assumption | refine Up.alloc ?_ _ | refine Up.drew ?_ | refine Up.drewN ?_ _ | refine Up.setCell ?_ ?_ _ | refine Up.call ?_ (by assumption)) | go_size)))) (by simp)) ⟨gm, 0, none⟩ more.length mc (segCells more) rfl (segCells_length more) (fun j u hu => by rw [add_plain, Nat.zero_add]; exact ((show Up w _ by (repeat' (first | (with_reducible first | exact Up.refl _ | assumption | refine Up.alloc ?_ _ | refine Up.drew ?_ | refine Up.drewN ?_ _ | refine Up.setCell ?_ ?_ _ | refine Up.call ?_ (by assumption)) | go_size))).cells.1 gm j hgm).trans (HN.out j u hu)) (segCells_one more) hm0 (by unfold maxLen; omega) (by omega) (Nat.zero_le _) _ rfl ?_; intro g cap2 w1 hown hgr hat hg1; have hC : Chg (own (.slice ao t.l.length cap)) w w1 := Chg.grown (Chg.of_up (by (repeat' (first | (with_reducible first | exact Up.refl _ | assumption | refine Up.alloc ?_ _ | refine Up.drew ?_ | refine Up.drewN ?_ _ | refine Up.setCell ?_ ?_ _ | refine Up.call ?_ (by assumption)) | go_size)))) hgr (fun k hk => Or.inl (own_mem hk)); have hRw := hR.chg hC (fun hm => ha.out b (own_of hm) rfl); have hB : Row w1 w.heap.size #[.int .i64 x, .int .i64 y] := Row.chg (S := own (.slice ao t.l.length cap)) (show Row _ w.heap.size #[.int .i64 x, .int .i64 y] by (repeat' (with_reducible first | assumption | (refine Row.at _ _ ?_; (simp; done)) | refine Row.alloc ?_ _ | refine Row.drew ?_ | refine Row.drewN ?_ _ | refine Row.other ?_ (by first | (simp; done) | (simp; omega) | omega) _ | refine Row.up ?_ (by assumption) | refine Row.chg ?_ (by assumption) (by first | (simp; done) | (simp; omega))))) (Chg.grown (Chg.refl _ _) hgr (fun k hk => Or.inl (own_mem hk))) (fun hm => by have := (hS.out.lt _ (own_of hm)).2; omega); have q1 : w1.cell? ⟨b, 1, none⟩ = some (.slice ao t.l.length cap) := hRw.cell 1 rfl; have q4 : w1.cell? ⟨b, 4, none⟩ = some (.int .i64 t.n.1) := hRw.cell 4 rfl; have q5 : w1.cell? ⟨b, 5, none⟩ = some (.int .i64 t.n.2) := hRw.cell 5 rfl; have f1 : w1.frozen? ⟨b, 1, none⟩ = false := hRw.free 1; have f4 : w1.frozen? ⟨b, 4, none⟩ = false := hRw.free 4; have f5 : w1.frozen? ⟨b, 5, none⟩ = false := hRw.free 5; have c0 : w1.cell? ⟨w.heap.size, 0, none⟩ = some (.int .i64 x) := hB.cell 0 rfl; have c1 : w1.cell? ⟨w.heap.size, 1, none⟩ = some (.int .i64 y) := hB.cell 1 rfl; have ne1 : ¬ w.heap.size = b := (by omega); have ne2 : ¬ b = w.heap.size := (by omega); have HO := Lib.hid hown; have HA2 := Lib.hid hat; have HC := Lib.hid hC; have HR := Lib.hid hRw; clear hown hat hC hRw hB hgr hR hq0 hq1)
    have hgb : g ≠ b := by
      rcases HA2.out with h1 | h1
      · exact ha.out g h1
      · simp at h1; omega
    go_ret
    refine ⟨by rw [H.out]; rfl, .slice (some ⟨g, 0, none⟩) (t.l.length + more.length) cap2, ?_, ?_, ?_⟩
    · rw [H.out]
      refine ⟨Row.put (Row.put (Row.put HR.out rfl) rfl) (by simp), ?_, by simpa using hlen⟩
      have ho : Segs w1 (.slice (some ⟨g, 0, none⟩) (t.l.length + more.length) cap2) (t.l ++ more) := by
        have h1 := HO.out
        unfold Segs
        rw [List.length_append, segCells_append]
        exact h1
      have hne : ∀ i, (Value.slice (some ⟨g, 0, none⟩) (t.l.length + more.length) cap2).ownBlock ≠ some (⟨b, i, none⟩ : Addr).block := fun i e => by
        simp only [Value.ownBlock, Option.some.injEq] at e
        exact hgb e
      exact ownsRow_setCell_other (ownsRow_setCell_other (ownsRow_setCell_other ho (hne 1) _) (hne 4) _) (hne 5) _
    · exact (((HC.out.mono (fun x hx => List.mem_cons_of_mem _ hx)).setCell (Or.inl (by simp)) _).setCell (Or.inl (by simp)) _).setCell (Or.inl (by simp)) _
    · intro g' hg'
      simp only [Value.ownBlock, Option.some.injEq] at hg'
      subst hg'
      rcases HA2.out with h1 | h1
      · exact Or.inl h1
      · exact Or.inr (by simp at h1; omega)

theorem Row.news {w : World} {g : Nat} {cs : Array Value} {l : List Value} (h : Row w g cs) (e : cs.toList = l) : ∀ j u, l[j]? = some u → w.cell? ⟨g, j, none⟩ = some u := fun j u hu => h.cell j (by subst e; simpa using hu)
/-- what a call leaves of a path -/
def Left (w : World) (b : Nat) (v : Value) (t : St) (w' : World) : Prop := ∃ v', PathIs w' b v' t ∧ Chg (b :: own v) w w' ∧ Own w v v'
theorem Left.of_up {w w1 w2 : World} {b : Nat} {v : Value} {t : St} (hu : Up w w1) (h : Left w1 b v t w2) : Left w b v t w2 := by
  obtain ⟨v', h1, h2, h3⟩ := h
  refine ⟨v', h1, ⟨h2.os.trans hu.os, h2.tape.trans hu.tape, h2.output.trans hu.output, Nat.le_trans hu.size h2.size, fun k hk hn => (h2.block k (Nat.lt_of_lt_of_le hk hu.size) hn).trans (hu.block k hk)⟩, fun g hg => (h3 g hg).imp id (fun h => Nat.le_trans hu.size h)⟩
theorem Left.same {w w1 : World} {b : Nat} {v : Value} {t : St} (hu : Up w w1) (h : PathIs w b v t) : Left w b v t w1 := ⟨v, h.up hu, Chg.of_up hu, Own.refl _ _⟩
theorem add_calls2 (b : Nat) (v : Value) (t : St) (x y : Int) (more : List Seg) (m gm mc : Nat) (cs : Array Value) (w : World) (h : PathIs w b v t) (hmm : more.length = m) (hm0 : 0 < m) (hm : m ≤ 10) (hlen : t.l.length + m ≤ 100000000)
    (hN : Row w gm cs) (hcs : cs.toList = segCells more) :
    Calls Tryd.prog 54 #[.pointer (some ⟨b, 0, none⟩), .agg #[.int .i64 x, .int .i64 y], .slice (some ⟨gm, 0, none⟩) m mc] w fun E w' =>
      E = .returned (.int .i64 (t.add (x, y) more).2) ∧ Left w b v (t.add (x, y) more).1 w' := by
  subst hmm
  exact add_calls b v t (x, y) more gm mc w h hm0 hm hlen hN.lt (Row.news hN hcs)

end Go.Proofs.YtoflafbhfoncmaaDoor.Path
end

section
namespace Go.Proofs.YtoflafbhfoncmaaDoor.Path
open Go.ChangeShapes Go.WideShapes Go.ChangeAt Go.RowKit
open Go.Proofs.YtoflafbhfoncmaaDoor.FixM (fits)
open Go.Proofs.YtoflafbhfoncmaaDoor.PathM
set_option linter.unusedVariables false
set_option linter.unusedSimpArgs false

set_option maxHeartbeats 1000000 in
theorem draw_calls (b : Nat) (v : Value) (t : St) (k a0 a1 b0 b1 c0 c1 x y : Int) (w : World) (h : PathIs w b v t) (hlen : t.l.length + 2 ≤ 100000000) :
    Calls Tryd.prog 55 #[.pointer (some ⟨b, 0, none⟩), .agg #[.int .i64 k, .int .i64 a0, .int .i64 a1, .int .i64 b0, .int .i64 b1, .int .i64 c0, .int .i64 c1], .agg #[.int .i64 x, .int .i64 y]] w fun E w' =>
      E = .returned (.int .i64 (t.draw ⟨k, (a0, a1), (b0, b1), (c0, c1)⟩ (x, y)).2) ∧ Left w b v (t.draw ⟨k, (a0, a1), (b0, b1), (c0, c1)⟩ (x, y)).1 w' := by
  have HP := Lib.hid h
  have hlt := h.row.lt
  obtain ⟨L, hL⟩ : ∃ L, lastK t.l = L := ⟨_, rfl⟩
  have HL := Lib.hid hL
  clear h
  by_cases h0 : L = 0
  · subst h0
    have H := Lib.hid (show t.draw ⟨k, (a0, a1), (b0, b1), (c0, c1)⟩ (x, y) = (t, 10) by unfold St.draw; rw [if_pos hL])
    clear hL
    go_enter Tryd.func55, Tryd.ntmps55
    go_wp2_with (go_at_call 53; ((with_reducible refine (last_calls b v t _ (HP.out.up (by (repeat' (first | (with_reducible first | exact Up.refl _ | assumption | refine Up.alloc ?_ _ | refine Up.drew ?_ | refine Up.drewN ?_ _ | refine Up.setCell ?_ ?_ _ | refine Up.call ?_ (by assumption)) | go_size))))).mono ?_); rintro E w1 ⟨rfl, hu1⟩; rw [HL.out]))
    go_ret
    exact ⟨by rw [H.out]; rfl, by rw [H.out]; exact Left.same (by (repeat' (first | (with_reducible first | exact Up.refl _ | assumption | refine Up.alloc ?_ _ | refine Up.drew ?_ | refine Up.drewN ?_ _ | refine Up.setCell ?_ ?_ _ | refine Up.call ?_ (by assumption)) | go_size))) HP.out⟩
  · have e0 : (L == 0) = false := by simpa using h0
    by_cases h4 : L = 4
    · subst h4
      have H := Lib.hid (show t.draw ⟨k, (a0, a1), (b0, b1), (c0, c1)⟩ (x, y) = t.add (x, y) [⟨1, t.n, Z, Z⟩, ⟨k, (a0, a1), (b0, b1), (c0, c1)⟩] by unfold St.draw; rw [if_neg (by rw [hL]; exact h0), if_pos hL])
      clear hL h0
      go_enter Tryd.func55, Tryd.ntmps55
      go_wp2_with (go_at_call 53; ((with_reducible refine (last_calls b v t _ (HP.out.up (by (repeat' (first | (with_reducible first | exact Up.refl _ | assumption | refine Up.alloc ?_ _ | refine Up.drew ?_ | refine Up.drewN ?_ _ | refine Up.setCell ?_ ?_ _ | refine Up.call ?_ (by assumption)) | go_size))))).mono ?_); rintro E w1 ⟨rfl, hu1⟩; rw [HL.out]; have hz1 := hu1.size; simp at hz1; have r1 : Row w1 w.heap.size #[.int .i64 k, .int .i64 a0, .int .i64 a1, .int .i64 b0, .int .i64 b1, .int .i64 c0, .int .i64 c1] := Row.up (by (repeat' (with_reducible first | assumption | (refine Row.at _ _ ?_; (simp; done)) | refine Row.alloc ?_ _ | refine Row.drew ?_ | refine Row.drewN ?_ _ | refine Row.other ?_ (by first | (simp; done) | (simp; omega) | omega) _ | refine Row.up ?_ (by assumption) | refine Row.chg ?_ (by assumption) (by first | (simp; done) | (simp; omega))))) hu1; have r2 : Row w1 (w.heap.size + 1) #[.int .i64 x, .int .i64 y] := Row.up (by (repeat' (with_reducible first | assumption | (refine Row.at _ _ ?_; (simp; done)) | refine Row.alloc ?_ _ | refine Row.drew ?_ | refine Row.drewN ?_ _ | refine Row.other ?_ (by first | (simp; done) | (simp; omega) | omega) _ | refine Row.up ?_ (by assumption) | refine Row.chg ?_ (by assumption) (by first | (simp; done) | (simp; omega))))) hu1; have q10 : w1.cell? ⟨w.heap.size, 0, none⟩ = some (.int .i64 k) := r1.cell 0 rfl; have q11 : w1.cell? ⟨w.heap.size, 1, none⟩ = some (.int .i64 a0) := r1.cell 1 rfl; have q12 : w1.cell? ⟨w.heap.size, 2, none⟩ = some (.int .i64 a1) := r1.cell 2 rfl; have q13 : w1.cell? ⟨w.heap.size, 3, none⟩ = some (.int .i64 b0) := r1.cell 3 rfl; have q14 : w1.cell? ⟨w.heap.size, 4, none⟩ = some (.int .i64 b1) := r1.cell 4 rfl; have q15 : w1.cell? ⟨w.heap.size, 5, none⟩ = some (.int .i64 c0) := r1.cell 5 rfl; have q16 : w1.cell? ⟨w.heap.size, 6, none⟩ = some (.int .i64 c1) := r1.cell 6 rfl; have q20 : w1.cell? ⟨w.heap.size + 1, 0, none⟩ = some (.int .i64 x) := r2.cell 0 rfl; have q21 : w1.cell? ⟨w.heap.size + 1, 1, none⟩ = some (.int .i64 y) := r2.cell 1 rfl; have HR0 : Row w1 b _ := HP.out.row.up (by (repeat' (first | (with_reducible first | exact Up.refl _ | assumption | refine Up.alloc ?_ _ | refine Up.drew ?_ | refine Up.drewN ?_ _ | refine Up.setCell ?_ ?_ _ | refine Up.call ?_ (by assumption)) | go_size))); have q34 : w1.cell? ⟨b, 4, none⟩ = some (.int .i64 t.n.1) := HR0.cell 4 rfl; have q35 : w1.cell? ⟨b, 5, none⟩ = some (.int .i64 t.n.2) := HR0.cell 5 rfl; clear HR0; have ls0 : w.heap.size < w1.heap.size := r1.lt; have ls1 : w.heap.size + 1 < w1.heap.size := r2.lt; have ls2 : b < w1.heap.size := (by omega)))
      go_region_with (first
        | (go_at_call 54; ((with_reducible refine (add_calls2 b v t x y [⟨1, t.n, Z, Z⟩, ⟨k, (a0, a1), (b0, b1), (c0, c1)⟩] 2 w1.heap.size 2 #[.int .i64 1, .int .i64 t.n.1, .int .i64 t.n.2, .int .i64 0, .int .i64 0, .int .i64 0, .int .i64 0, .int .i64 k, .int .i64 a0, .int .i64 a1, .int .i64 b0, .int .i64 b1, .int .i64 c0, .int .i64 c1] _ (HP.out.up (by (repeat' (first | (with_reducible first | exact Up.refl _ | assumption | refine Up.alloc ?_ _ | refine Up.drew ?_ | refine Up.drewN ?_ _ | refine Up.setCell ?_ ?_ _ | refine Up.call ?_ (by assumption)) | go_size)))) rfl (by decide) (by decide) (by omega) (by (repeat' (with_reducible first | assumption | (refine Row.at _ _ ?_; (simp; done)) | refine Row.alloc ?_ _ | refine Row.drew ?_ | refine Row.drewN ?_ _ | refine Row.other ?_ (by first | (simp; done) | (simp; omega) | omega) _ | refine Row.up ?_ (by assumption) | refine Row.chg ?_ (by assumption) (by first | (simp; done) | (simp; omega))))) rfl).mono ?_); rintro E w2 ⟨rfl, hleft⟩; have HLF := Lib.hid hleft; clear hleft)))
      all_goals go_wp2
      all_goals go_ret
      all_goals exact ⟨by rw [H.out]; rfl, by rw [H.out]; exact Left.of_up (by (repeat' (first | (with_reducible first | exact Up.refl _ | assumption | refine Up.alloc ?_ _ | refine Up.drew ?_ | refine Up.drewN ?_ _ | refine Up.setCell ?_ ?_ _ | refine Up.call ?_ (by assumption)) | go_size))) HLF.out⟩
    · have e4 : (L == 4) = false := by simpa using h4
      have H := Lib.hid (show t.draw ⟨k, (a0, a1), (b0, b1), (c0, c1)⟩ (x, y) = t.add (x, y) [⟨k, (a0, a1), (b0, b1), (c0, c1)⟩] by unfold St.draw; rw [if_neg (by rw [hL]; exact h0), if_neg (by rw [hL]; exact h4)])
      clear hL h0 h4
      go_enter Tryd.func55, Tryd.ntmps55
      go_wp2_with (first
        | (go_at_call 53; ((with_reducible refine (last_calls b v t _ (HP.out.up (by (repeat' (first | (with_reducible first | exact Up.refl _ | assumption | refine Up.alloc ?_ _ | refine Up.drew ?_ | refine Up.drewN ?_ _ | refine Up.setCell ?_ ?_ _ | refine Up.call ?_ (by assumption)) | go_size))))).mono ?_); rintro E w1 ⟨rfl, hu1⟩; rw [HL.out]; have hz1 := hu1.size; simp at hz1; have r1 : Row w1 w.heap.size #[.int .i64 k, .int .i64 a0, .int .i64 a1, .int .i64 b0, .int .i64 b1, .int .i64 c0, .int .i64 c1] := Row.up (by (repeat' (with_reducible first | assumption | (refine Row.at _ _ ?_; (simp; done)) | refine Row.alloc ?_ _ | refine Row.drew ?_ | refine Row.drewN ?_ _ | refine Row.other ?_ (by first | (simp; done) | (simp; omega) | omega) _ | refine Row.up ?_ (by assumption) | refine Row.chg ?_ (by assumption) (by first | (simp; done) | (simp; omega))))) hu1; have r2 : Row w1 (w.heap.size + 1) #[.int .i64 x, .int .i64 y] := Row.up (by (repeat' (with_reducible first | assumption | (refine Row.at _ _ ?_; (simp; done)) | refine Row.alloc ?_ _ | refine Row.drew ?_ | refine Row.drewN ?_ _ | refine Row.other ?_ (by first | (simp; done) | (simp; omega) | omega) _ | refine Row.up ?_ (by assumption) | refine Row.chg ?_ (by assumption) (by first | (simp; done) | (simp; omega))))) hu1; have q10 : w1.cell? ⟨w.heap.size, 0, none⟩ = some (.int .i64 k) := r1.cell 0 rfl; have q11 : w1.cell? ⟨w.heap.size, 1, none⟩ = some (.int .i64 a0) := r1.cell 1 rfl; have q12 : w1.cell? ⟨w.heap.size, 2, none⟩ = some (.int .i64 a1) := r1.cell 2 rfl; have q13 : w1.cell? ⟨w.heap.size, 3, none⟩ = some (.int .i64 b0) := r1.cell 3 rfl; have q14 : w1.cell? ⟨w.heap.size, 4, none⟩ = some (.int .i64 b1) := r1.cell 4 rfl; have q15 : w1.cell? ⟨w.heap.size, 5, none⟩ = some (.int .i64 c0) := r1.cell 5 rfl; have q16 : w1.cell? ⟨w.heap.size, 6, none⟩ = some (.int .i64 c1) := r1.cell 6 rfl; have q20 : w1.cell? ⟨w.heap.size + 1, 0, none⟩ = some (.int .i64 x) := r2.cell 0 rfl; have q21 : w1.cell? ⟨w.heap.size + 1, 1, none⟩ = some (.int .i64 y) := r2.cell 1 rfl))
        | (go_at_call 54; ((with_reducible refine (add_calls2 b v t x y [⟨k, (a0, a1), (b0, b1), (c0, c1)⟩] 1 w1.heap.size 1 #[.int .i64 k, .int .i64 a0, .int .i64 a1, .int .i64 b0, .int .i64 b1, .int .i64 c0, .int .i64 c1] _ (HP.out.up (by (repeat' (first | (with_reducible first | exact Up.refl _ | assumption | refine Up.alloc ?_ _ | refine Up.drew ?_ | refine Up.drewN ?_ _ | refine Up.setCell ?_ ?_ _ | refine Up.call ?_ (by assumption)) | go_size)))) rfl (by decide) (by decide) (by omega) (by (repeat' (with_reducible first | assumption | (refine Row.at _ _ ?_; (simp; done)) | refine Row.alloc ?_ _ | refine Row.drew ?_ | refine Row.drewN ?_ _ | refine Row.other ?_ (by first | (simp; done) | (simp; omega) | omega) _ | refine Row.up ?_ (by assumption) | refine Row.chg ?_ (by assumption) (by first | (simp; done) | (simp; omega))))) rfl).mono ?_); rintro E w2 ⟨rfl, hleft⟩; have HLF := Lib.hid hleft; clear hleft)))
      go_ret
      exact ⟨by rw [H.out]; rfl, by rw [H.out]; exact Left.of_up (by (repeat' (first | (with_reducible first | exact Up.refl _ | assumption | refine Up.alloc ?_ _ | refine Up.drew ?_ | refine Up.drewN ?_ _ | refine Up.setCell ?_ ?_ _ | refine Up.call ?_ (by assumption)) | go_size))) HLF.out⟩

end Go.Proofs.YtoflafbhfoncmaaDoor.Path
end

section
namespace Go.Proofs.YtoflafbhfoncmaaDoor.Path
open Go.ChangeShapes Go.WideShapes Go.ChangeAt Go.RowKit
open Go.Proofs.YtoflafbhfoncmaaDoor.FixM (fits)
open Go.Proofs.YtoflafbhfoncmaaDoor.PathM
set_option linter.unusedVariables false
set_option linter.unusedSimpArgs false

theorem pts1 {w : World} {g : Nat} {x y : Int} (h : Row w g #[.int .i64 x, .int .i64 y]) : Pts w g 0 [(x, y)] := fun i p hp => by
  match i, hp with
  | 0, hp =>
    simp at hp
    subst hp
    exact ⟨h.cell 0 rfl, h.cell 1 rfl⟩
theorem pts3 {w : World} {g : Nat} {a b c d e f : Int} (h : Row w g #[.int .i64 a, .int .i64 b, .int .i64 c, .int .i64 d, .int .i64 e, .int .i64 f]) : Pts w g 0 [(a, b), (c, d), (e, f)] := fun i p hp => by
  match i, hp with
  | 0, hp =>
    simp at hp
    subst hp
    exact ⟨h.cell 0 rfl, h.cell 1 rfl⟩
  | 1, hp =>
    simp at hp
    subst hp
    exact ⟨h.cell 2 rfl, h.cell 3 rfl⟩
  | 2, hp =>
    simp at hp
    subst hp
    exact ⟨h.cell 4 rfl, h.cell 5 rfl⟩
theorem fits_calls2 (l : List Pt) (m g c : Nat) (cs : Array Value) (w : World) (hm : l.length = m) (hl : m ≤ 1000000000) (h : Row w g cs) (hp : Row w g cs → Pts w g 0 l) :
    Calls Tryd.prog 52 #[.slice (some ⟨g, 0, none⟩) m c] w fun e w' => e = .returned (.bool (l.all fitsP)) ∧ Up w w' := by
  subst hm
  exact fits_calls l g 0 c w hl (hp h) h.lt

set_option maxHeartbeats 1000000 in
theorem line_calls (b : Nat) (v : Value) (t : St) (x y : Int) (w : World) (h : PathIs w b v t) (hlen : t.l.length + 2 ≤ 100000000) :
    Calls Tryd.prog 37 #[.pointer (some ⟨b, 0, none⟩), .agg #[.int .i64 x, .int .i64 y]] w fun E w' => E = .returned (.int .i64 (t.line (x, y)).2) ∧ Left w b v (t.line (x, y)).1 w' := by
  have HP := Lib.hid h
  have hlt := h.row.lt
  clear h
  by_cases hf : [(x, y)].all fitsP = true
  · have HF := Lib.hid hf
    have H := Lib.hid (show t.line (x, y) = t.draw ⟨2, (x, y), (0, 0), (0, 0)⟩ (x, y) by
      unfold St.line
      rw [if_pos (by simpa using hf)]
      all_goals rfl)
    clear hf
    go_enter Tryd.func37, Tryd.ntmps37
    go_wp2_with (first
      | (go_at_call 52; ((with_reducible refine (fits_calls2 [(x, y)] 1 (w.heap.size + 1) 1 #[.int .i64 x, .int .i64 y] _ rfl (by decide) (by (repeat' (with_reducible first | assumption | (refine Row.at _ _ ?_; (simp; done)) | refine Row.alloc ?_ _ | refine Row.drew ?_ | refine Row.drewN ?_ _ | refine Row.other ?_ (by first | (simp; done) | (simp; omega) | omega) _ | refine Row.up ?_ (by assumption) | refine Row.chg ?_ (by assumption) (by first | (simp; done) | (simp; omega))))) pts1).mono ?_); rintro E w1 ⟨rfl, hu1⟩; rw [HF.out]; have hz1 := hu1.size; simp at hz1; have r0 : Row w1 (w.heap.size) #[.int .i64 x, .int .i64 y] := Row.up (by (repeat' (with_reducible first | assumption | (refine Row.at _ _ ?_; (simp; done)) | refine Row.alloc ?_ _ | refine Row.drew ?_ | refine Row.drewN ?_ _ | refine Row.other ?_ (by first | (simp; done) | (simp; omega) | omega) _ | refine Row.up ?_ (by assumption) | refine Row.chg ?_ (by assumption) (by first | (simp; done) | (simp; omega))))) hu1; have q00 : w1.cell? ⟨w.heap.size, 0, none⟩ = some (.int .i64 x) := r0.cell 0 rfl; have q01 : w1.cell? ⟨w.heap.size, 1, none⟩ = some (.int .i64 y) := r0.cell 1 rfl))
      | (go_at_call 55; ((with_reducible refine (draw_calls b v t 2 x y 0 0 0 0 x y _ (HP.out.up (by (repeat' (first | (with_reducible first | exact Up.refl _ | assumption | refine Up.alloc ?_ _ | refine Up.drew ?_ | refine Up.drewN ?_ _ | refine Up.setCell ?_ ?_ _ | refine Up.call ?_ (by assumption)) | go_size)))) hlen).mono ?_); rintro E w2 ⟨rfl, hleft⟩; have HLF := Lib.hid hleft; clear hleft)))
    go_ret
    exact ⟨by rw [H.out]; rfl, by rw [H.out]; exact Left.of_up (by (repeat' (first | (with_reducible first | exact Up.refl _ | assumption | refine Up.alloc ?_ _ | refine Up.drew ?_ | refine Up.drewN ?_ _ | refine Up.setCell ?_ ?_ _ | refine Up.call ?_ (by assumption)) | go_size))) HLF.out⟩
  · have HF := Lib.hid (show [(x, y)].all fitsP = false by simpa using hf)
    have H := Lib.hid (show t.line (x, y) = (t, 11) by
      unfold St.line
      rw [if_neg (by simpa using hf)])
    clear hf
    go_enter Tryd.func37, Tryd.ntmps37
    go_wp2_with (go_at_call 52; ((with_reducible refine (fits_calls2 [(x, y)] 1 (w.heap.size + 1) 1 #[.int .i64 x, .int .i64 y] _ rfl (by decide) (by (repeat' (with_reducible first | assumption | (refine Row.at _ _ ?_; (simp; done)) | refine Row.alloc ?_ _ | refine Row.drew ?_ | refine Row.drewN ?_ _ | refine Row.other ?_ (by first | (simp; done) | (simp; omega) | omega) _ | refine Row.up ?_ (by assumption) | refine Row.chg ?_ (by assumption) (by first | (simp; done) | (simp; omega))))) pts1).mono ?_); rintro E w1 ⟨rfl, hu1⟩; rw [HF.out]; have hz1 := hu1.size; simp at hz1; have r0 : Row w1 (w.heap.size) #[.int .i64 x, .int .i64 y] := Row.up (by (repeat' (with_reducible first | assumption | (refine Row.at _ _ ?_; (simp; done)) | refine Row.alloc ?_ _ | refine Row.drew ?_ | refine Row.drewN ?_ _ | refine Row.other ?_ (by first | (simp; done) | (simp; omega) | omega) _ | refine Row.up ?_ (by assumption) | refine Row.chg ?_ (by assumption) (by first | (simp; done) | (simp; omega))))) hu1; have q00 : w1.cell? ⟨w.heap.size, 0, none⟩ = some (.int .i64 x) := r0.cell 0 rfl; have q01 : w1.cell? ⟨w.heap.size, 1, none⟩ = some (.int .i64 y) := r0.cell 1 rfl))
    go_ret
    exact ⟨by rw [H.out]; rfl, by rw [H.out]; exact Left.same (by (repeat' (first | (with_reducible first | exact Up.refl _ | assumption | refine Up.alloc ?_ _ | refine Up.drew ?_ | refine Up.drewN ?_ _ | refine Up.setCell ?_ ?_ _ | refine Up.call ?_ (by assumption)) | go_size))) HP.out⟩

theorem line_nil (x y : Int) (w : World) :
    Calls Tryd.prog 37 #[.pointer none, .agg #[.int .i64 x, .int .i64 y]] w fun E w' => E = .returned (.int .i64 21) ∧ Up w w' := by
  go_enter Tryd.func37, Tryd.ntmps37
  go_wp2
  go_ret
  exact ⟨rfl, by (repeat' (first | (with_reducible first | exact Up.refl _ | assumption | refine Up.alloc ?_ _ | refine Up.drew ?_ | refine Up.drewN ?_ _ | refine Up.setCell ?_ ?_ _ | refine Up.call ?_ (by assumption)) | go_size))⟩

end Go.Proofs.YtoflafbhfoncmaaDoor.Path
end

section
namespace Go.Proofs.YtoflafbhfoncmaaDoor.Path
open Go.ChangeShapes Go.WideShapes Go.ChangeAt Go.RowKit
open Go.Proofs.YtoflafbhfoncmaaDoor.FixM (fits)
open Go.Proofs.YtoflafbhfoncmaaDoor.PathM
set_option linter.unusedVariables false
set_option linter.unusedSimpArgs false

theorem clone_calls (v : Value) (l : List Seg) (w : World) (h : Segs w v l) (hlen : l.length ≤ 100000000) :
    Calls Tryd.prog 39 #[v] w fun E w' => ∃ v', E = .returned v' ∧ Segs w' v' l ∧ Up w w' ∧ ∀ g, v'.ownBlock = some g → w.heap.size ≤ g := by
  rcases h.form with ⟨rfl, rfl⟩ | ⟨g, cap, rfl, hn, hm, hg⟩
  · clear h
    have heq := fun w => Lib.run_eql_slice_nil (P := Tryd.prog) w 43 55 none 0 0 0 0 Tryd.underlying43
    go_enter Tryd.func39, Tryd.ntmps39
    go_wp2
    go_ret
    exact ⟨_, rfl, World.ownsRow_nil _ _ _ _, by (repeat' (first | (with_reducible first | exact Up.refl _ | assumption | refine Up.alloc ?_ _ | refine Up.drew ?_ | refine Up.drewN ?_ _ | refine Up.setCell ?_ ?_ _ | refine Up.call ?_ (by assumption)) | go_size)), fun g hg => by cases hg⟩
  · obtain ⟨i0, hi, hz0, hz1, hz2⟩ := info_parts infoSeg
    have HS := Lib.hid h
    clear h
    have heq := fun w => Lib.run_eql_slice_nil (P := Tryd.prog) w 43 55 (some ⟨g, 0, none⟩) l.length cap 0 0 Tryd.underlying43
    go_enter Tryd.func39, Tryd.ntmps39
    go_wp2_with (at_builtin; refine wpList_append_own_at _ rfl _ _ 43 rfl 0 55 i0 _ 7 56 Tryd.underlying43 hi hz0 hz1 hz2 rfl (by decide) (.slice (some ⟨w.heap.size, 0, none⟩) 0 0) 0 [] rfl (World.ownsRow_made w #[] 0 (Nat.zero_le _) (by decide) rfl) ⟨g, 0, none⟩ l.length cap (segCells l) rfl (segCells_length l) (fun j u hu => by rw [add_plain, Nat.zero_add]; exact ((show Up w _ by (repeat' (first | (with_reducible first | exact Up.refl _ | assumption | refine Up.alloc ?_ _ | refine Up.drew ?_ | refine Up.drewN ?_ _ | refine Up.setCell ?_ ?_ _ | refine Up.call ?_ (by assumption)) | go_size))).cells.1 g j hg).trans (by have := HS.out.cells (g := g) rfl j u hu; rwa [add_plain, Nat.zero_add] at this)) (segCells_one l) (by unfold maxLen; omega) (by omega) (Nat.zero_le _) ?_; intro v1 w1 hown hgr hnil hat; have HO := Lib.hid hown; have HG := Lib.hid hgr; have HA := Lib.hid hat; clear hown hgr hnil hat)
    go_ret
    refine ⟨v1, rfl, ?_, ?_, ?_⟩
    · have := HO.out
      rw [Nat.zero_add, List.nil_append] at this
      exact this
    · exact grown_up (Up.alloc (Up.refl w) _) HG.out (fun k hk => by simp only [Value.ownBlock, Option.some.injEq] at hk; omega)
    · intro g2 h2
      rcases HA.out with h1 | h1
      · rw [h1] at h2; simp only [Value.ownBlock, Option.some.injEq] at h2; omega
      · rw [h1] at h2; simp at h2; omega

theorem segments_calls (b : Nat) (v : Value) (t : St) (w : World) (h : PathIs w b v t) :
    Calls Tryd.prog 11 #[.pointer (some ⟨b, 0, none⟩)] w fun E w' => ∃ v', E = .returned v' ∧ Segs w' v' t.l ∧ Up w w' ∧ ∀ g, v'.ownBlock = some g → w.heap.size ≤ g := by
  have hq : w.cell? ⟨b, 1, none⟩ = some v := h.row.cell 1 rfl
  have hlt := h.row.lt
  have HS := Lib.hid h.segs
  have hlen := h.len
  obtain ⟨ao, cap, rfl⟩ := h.form
  clear h
  go_enter Tryd.func11, Tryd.ntmps11
  go_wp2_with (go_at_call 39; ((with_reducible refine (clone_calls _ t.l _ HS.out hlen).mono ?_); rintro E w1 ⟨v1, rfl, h1, h2, h3⟩; have H1 := Lib.hid h1; have H3 := Lib.hid h3; clear h1 h3))
  go_ret
  exact ⟨v1, rfl, H1.out, by (repeat' (first | (with_reducible first | exact Up.refl _ | assumption | refine Up.alloc ?_ _ | refine Up.drew ?_ | refine Up.drewN ?_ _ | refine Up.setCell ?_ ?_ _ | refine Up.call ?_ (by assumption)) | go_size)), H3.out⟩

theorem new_calls (most : Int) (w : World) :
    Calls Tryd.prog 21 #[.int .i64 most] w fun E w' => E = .returned (.pointer (some ⟨w.heap.size, 0, none⟩)) ∧ Up w w' ∧ PathIs w' w.heap.size (.slice none 0 0) ⟨most, [], Z, Z⟩ := by
  go_enter Tryd.func21, Tryd.ntmps21
  go_wp2
  go_ret
  exact ⟨rfl, by (repeat' (first | (with_reducible first | exact Up.refl _ | assumption | refine Up.alloc ?_ _ | refine Up.drew ?_ | refine Up.drewN ?_ _ | refine Up.setCell ?_ ?_ _ | refine Up.call ?_ (by assumption)) | go_size)), ⟨(show Row _ w.heap.size #[.int .i64 most, .slice none 0 0, .int .i64 0, .int .i64 0, .int .i64 0, .int .i64 0] by (repeat' (with_reducible first | assumption | (refine Row.at _ _ ?_; (simp; done)) | refine Row.alloc ?_ _ | refine Row.drew ?_ | refine Row.drewN ?_ _ | refine Row.other ?_ (by first | (simp; done) | (simp; omega) | omega) _ | refine Row.up ?_ (by assumption) | refine Row.chg ?_ (by assumption) (by first | (simp; done) | (simp; omega))))), World.ownsRow_nil _ _ _ _, Nat.zero_le _⟩⟩

end Go.Proofs.YtoflafbhfoncmaaDoor.Path
end
