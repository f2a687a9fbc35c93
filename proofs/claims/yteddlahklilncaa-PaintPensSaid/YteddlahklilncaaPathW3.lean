/- Segments are added to a path. -/
import Derived.Test.YteddlahklilncaaPathW2
import Derived.Test.YteddlahklilncaaArgs
import Derived.Deep.AppendLies
namespace Go.Proofs.Yteddlahklilncaa.Path
open Go.ChangeShapes Go.WideShapes Go.ChangeAt Go.RowKit
open Go.Proofs.Yteddlahklilncaa.FixM (fits)
open Go.Proofs.Yteddlahklilncaa.PathM
set_option linter.unusedVariables false
set_option linter.unusedSimpArgs false

theorem infoSeg : (Try.prog.info? 82).map (fun i => (i.zero, i.size, i.bytes)) = some (some (.agg #[.int .i64 0, .int .i64 0, .int .i64 0, .int .i64 0, .int .i64 0, .int .i64 0, .int .i64 0]), 7, 56) := by kernel_rfl

set_option maxHeartbeats 1000000 in
theorem add_calls (b : Nat) (v : Value) (t : St) (to : Pt) (more : List Seg) (gm mc : Nat) (w : World) (h : PathIs w b v t) (hm0 : 0 < more.length) (hm : more.length ≤ 10) (hlen : t.l.length + more.length ≤ 100000000)
    (hgm : gm < w.heap.size) (hN : ∀ j u, (segCells more)[j]? = some u → w.cell? ⟨gm, j, none⟩ = some u) :
    Calls Try.prog 28 #[.pointer (some ⟨b, 0, none⟩), .agg #[.int .i64 to.1, .int .i64 to.2], .slice (some ⟨gm, 0, none⟩) more.length mc] w fun E w' =>
      E = .returned (.int .i64 (t.add to more).2) ∧ ∃ v', PathIs w' b v' (t.add to more).1 ∧ Chg (b :: own v) w w' ∧ Own w v v' := by
  have hq0 : w.cell? ⟨b, 0, none⟩ = some (.int .i64 t.most) := h.row.cell 0 rfl
  have hq1 : w.cell? ⟨b, 1, none⟩ = some v := h.row.cell 1 rfl
  have hlt := h.row.lt
  obtain ⟨x, y⟩ := to
  by_cases hc : t.most < (t.l.length : Int) + more.length
  · have H := Lib.hid (show t.add (x, y) more = (t, 9) by unfold St.add; rw [if_pos hc])
    have dc : decide (t.most < (t.l.length : Int) + more.length) = true := decide_eq_true hc
    have HH := Lib.hid h
    obtain ⟨ao, cap, rfl⟩ := h.form
    clear h hN
    go_enter Try.func28, Try.ntmps28
    go_wp2
    go_quiet (fail)
    go_wp2
    go_ret
    exact ⟨by rw [H.out]; rfl, _, by rw [H.out]; exact HH.out.up (by (repeat' (first | (with_reducible exact Up.refl _) | (with_reducible assumption) | (with_reducible refine Up.alloc ?_ _) | (with_reducible refine Up.drew ?_) | (with_reducible refine Up.drewN ?_ _) | (with_reducible refine Up.setCell ?_ ?_ _) | (with_reducible refine Up.call ?_ (by with_reducible assumption)) | go_size))), by (repeat' (first | (with_reducible exact Chg.refl _ _) | (with_reducible assumption) | (with_reducible refine Chg.alloc ?_ _) | (with_reducible refine Chg.drew ?_) | (with_reducible refine Chg.drewN ?_ _) | (with_reducible refine Chg.setCell ?_ ?_ _) | (with_reducible refine Chg.upc ?_ (by with_reducible assumption)) | (with_reducible refine Chg.call ?_ (by with_reducible assumption) ?_) | (refine Or.inl ?_; (simp; done)) | (simp; done) | (simp; omega) | omega)), Own.refl _ _⟩
  · have H := Lib.hid (show t.add (x, y) more = ({ t with l := t.l ++ more, n := (x, y) }, 0) by unfold St.add; rw [if_neg hc])
    have dc : decide (t.most < (t.l.length : Int) + more.length) = false := decide_eq_false hc
    have HH := Lib.hid h
    have HN := Lib.hid hN
    have ha := Lib.hid h.apart
    have hS := Lib.hid h.segs
    have hR := h.row
    obtain ⟨ao, cap, rfl⟩ := h.form
    obtain ⟨i0, hi, hz0, hz1, hz2⟩ := info_parts infoSeg
    clear h hN
    go_enter Try.func28, Try.ntmps28
    go_wp2
    go_quiet (fail)
    go_wp2_with (at_builtin; refine wpList_append_lies _ rfl _ _ 48 rfl 0 82 i0 _ 7 56 Try.underlying48 hi hz0 hz1 hz2 rfl (by decide) (.slice ao t.l.length cap) t.l.length (segCells t.l) rfl (hS.out.chg (S := []) (Chg.of_up (by (repeat' (first | (with_reducible exact Up.refl _) | (with_reducible assumption) | (with_reducible refine Up.alloc ?_ _) | (with_reducible refine Up.drew ?_) | (with_reducible refine Up.drewN ?_ _) | (with_reducible refine Up.setCell ?_ ?_ _) | (with_reducible refine Up.call ?_ (by with_reducible assumption)) | go_size)))) (by simp)) ⟨gm, 0, none⟩ more.length mc (segCells more) rfl (segCells_length more) (fun j u hu => by rw [add_plain, Nat.zero_add]; exact ((show Up w _ by (repeat' (first | (with_reducible exact Up.refl _) | (with_reducible assumption) | (with_reducible refine Up.alloc ?_ _) | (with_reducible refine Up.drew ?_) | (with_reducible refine Up.drewN ?_ _) | (with_reducible refine Up.setCell ?_ ?_ _) | (with_reducible refine Up.call ?_ (by with_reducible assumption)) | go_size))).cells.1 gm j hgm).trans (HN.out j u hu)) (segCells_one more) hm0 (by unfold maxLen; omega) (by omega) (Nat.zero_le _) _ rfl ?_; intro g cap2 w1 hown hgr hat hg1; have hC : Chg (own (.slice ao t.l.length cap)) w w1 := Chg.grown (Chg.of_up (by (repeat' (first | (with_reducible exact Up.refl _) | (with_reducible assumption) | (with_reducible refine Up.alloc ?_ _) | (with_reducible refine Up.drew ?_) | (with_reducible refine Up.drewN ?_ _) | (with_reducible refine Up.setCell ?_ ?_ _) | (with_reducible refine Up.call ?_ (by with_reducible assumption)) | go_size)))) hgr (fun k hk => Or.inl (own_mem hk)); have hRw := hR.chg hC (fun hm => ha.out b (own_of hm) rfl); have hB : Row w1 w.heap.size #[.int .i64 x, .int .i64 y] := Row.chg (S := own (.slice ao t.l.length cap)) (show Row _ w.heap.size #[.int .i64 x, .int .i64 y] by (repeat' (first | (with_reducible assumption) | (with_reducible refine Row.at _ _ ?_; (simp; done)) | (with_reducible refine Row.alloc ?_ _) | (with_reducible refine Row.drew ?_) | (with_reducible refine Row.drewN ?_ _) | (with_reducible refine Row.other ?_ (by first | (simp; done) | (simp; omega) | omega) _) | (with_reducible refine Row.up ?_ (by with_reducible assumption)) | (with_reducible refine Row.chg ?_ (by with_reducible assumption) (by first | (simp; done) | (simp; omega)))))) (Chg.grown (Chg.refl _ _) hgr (fun k hk => Or.inl (own_mem hk))) (fun hm => by have := (hS.out.lt _ (own_of hm)).2; omega); have q1 : w1.cell? ⟨b, 1, none⟩ = some (.slice ao t.l.length cap) := hRw.cell 1 rfl; have q4 : w1.cell? ⟨b, 4, none⟩ = some (.int .i64 t.n.1) := hRw.cell 4 rfl; have q5 : w1.cell? ⟨b, 5, none⟩ = some (.int .i64 t.n.2) := hRw.cell 5 rfl; have f1 : w1.frozen? ⟨b, 1, none⟩ = false := hRw.free 1; have f4 : w1.frozen? ⟨b, 4, none⟩ = false := hRw.free 4; have f5 : w1.frozen? ⟨b, 5, none⟩ = false := hRw.free 5; have c0 : w1.cell? ⟨w.heap.size, 0, none⟩ = some (.int .i64 x) := hB.cell 0 rfl; have c1 : w1.cell? ⟨w.heap.size, 1, none⟩ = some (.int .i64 y) := hB.cell 1 rfl; have ne1 : ¬ w.heap.size = b := (by omega); have ne2 : ¬ b = w.heap.size := (by omega); have HO := Lib.hid hown; have HA2 := Lib.hid hat; have HC := Lib.hid hC; have HR := Lib.hid hRw; clear hown hat hC hRw hB hgr hR hq0 hq1)
    have hgb : g ≠ b := by
      rcases HA2.out with h1 | h1
      · exact ha.out g h1
      · simp at h1; omega
    go_ret
    refine ⟨by rw [H.out]; rfl, .slice (some ⟨g, 0, none⟩) (t.l.length + more.length) cap2, ?_, ?_, ?_⟩
    · rw [H.out]
      refine ⟨Row.put (Row.put (Row.put HR.out rfl) rfl) (by simp), ?_, by simpa using hlen⟩
      have ho : Segs w1 (.slice (some ⟨g, 0, none⟩) (t.l.length + more.length) cap2) (t.l ++ more) := by
        have h1 := HO.out
        unfold Segs
        rw [List.length_append, segCells_append]
        exact h1
      have hne : ∀ i, (Value.slice (some ⟨g, 0, none⟩) (t.l.length + more.length) cap2).ownBlock ≠ some (⟨b, i, none⟩ : Addr).block := fun i e => by
        simp only [Value.ownBlock, Option.some.injEq] at e
        exact hgb e
      exact ownsRow_setCell_other (ownsRow_setCell_other (ownsRow_setCell_other ho (hne 1) _) (hne 4) _) (hne 5) _
    · exact (((HC.out.mono (fun x hx => List.mem_cons_of_mem _ hx)).setCell (Or.inl (by simp)) _).setCell (Or.inl (by simp)) _).setCell (Or.inl (by simp)) _
    · intro g' hg'
      simp only [Value.ownBlock, Option.some.injEq] at hg'
      subst hg'
      rcases HA2.out with h1 | h1
      · exact Or.inl h1
      · exact Or.inr (by simp at h1; omega)

theorem Row.news {w : World} {g : Nat} {cs : Array Value} {l : List Value} (h : Row w g cs) (e : cs.toList = l) : ∀ j u, l[j]? = some u → w.cell? ⟨g, j, none⟩ = some u := fun j u hu => h.cell j (by subst e; simpa using hu)
/-- what a call leaves of a path -/
def Left (w : World) (b : Nat) (v : Value) (t : St) (w' : World) : Prop := ∃ v', PathIs w' b v' t ∧ Chg (b :: own v) w w' ∧ Own w v v'
theorem Left.of_up {w w1 w2 : World} {b : Nat} {v : Value} {t : St} (hu : Up w w1) (h : Left w1 b v t w2) : Left w b v t w2 := by
  obtain ⟨v', h1, h2, h3⟩ := h
  refine ⟨v', h1, ⟨h2.os.trans hu.os, h2.tape.trans hu.tape, h2.output.trans hu.output, Nat.le_trans hu.size h2.size, fun k hk hn => (h2.block k (Nat.lt_of_lt_of_le hk hu.size) hn).trans (hu.block k hk)⟩, fun g hg => (h3 g hg).imp id (fun h => Nat.le_trans hu.size h)⟩
theorem Left.same {w w1 : World} {b : Nat} {v : Value} {t : St} (hu : Up w w1) (h : PathIs w b v t) : Left w b v t w1 := ⟨v, h.up hu, Chg.of_up hu, Own.refl _ _⟩
theorem add_calls2 (b : Nat) (v : Value) (t : St) (x y : Int) (more : List Seg) (m gm mc : Nat) (cs : Array Value) (w : World) (h : PathIs w b v t) (hmm : more.length = m) (hm0 : 0 < m) (hm : m ≤ 10) (hlen : t.l.length + m ≤ 100000000)
    (hN : Row w gm cs) (hcs : cs.toList = segCells more) :
    Calls Try.prog 28 #[.pointer (some ⟨b, 0, none⟩), .agg #[.int .i64 x, .int .i64 y], .slice (some ⟨gm, 0, none⟩) m mc] w fun E w' =>
      E = .returned (.int .i64 (t.add (x, y) more).2) ∧ Left w b v (t.add (x, y) more).1 w' := by
  subst hmm
  exact add_calls b v t (x, y) more gm mc w h hm0 hm hlen hN.lt (Row.news hN hcs)

end Go.Proofs.Yteddlahklilncaa.Path
