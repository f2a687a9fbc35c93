/- The reference's path: where one is. -/
import Derived.Test.YtgfkfhkgidmepaaPathRef
namespace Go.Proofs.Ytgfkfhkgidmepaa.Path
open Go.ChangeShapes Go.WideShapes Go.ChangeAt Go.RowKit
open Go.Proofs.Ytgfkfhkgidmepaa.PathM
set_option linter.unusedVariables false
set_option linter.unusedSimpArgs false

theorem results_cur (tmps : Array Value) (w : World) (b2 : Nat) (x y : Int) (r : Bool) (h2 : Row w b2 #[.int .i64 x, .int .i64 y]) (e2 : tmps[2]?.getD undef = .pointer (some ⟨b2, 0, none⟩)) (e3 : tmps[3]?.getD undef = .bool r) :
    (results Try.f23 tmps).run Try.prog w = .ok (.tuple #[.agg #[.int .i64 x, .int .i64 y], .bool r]) w := by
  have c0 := h2.cell 0 rfl
  have c1 := h2.cell 1 rfl
  simp [results, Try.results23, go_sem, e2, e3, c0, c1]

set_option maxRecDepth 8000 in
set_option maxHeartbeats 1000000 in
theorem rcur_empty (b : Nat) (v : Value) (most : Int) (w : World) (h : RefIs w b v most []) :
    Calls Try.prog 23 #[.pointer (some ⟨b, 0, none⟩)] w fun E w' => E = .returned (.tuple #[.agg #[.int .i64 0, .int .i64 0], .bool false]) ∧ Up w w' := by
  have hlt := h.row.lt
  have q1 : w.cell? ⟨b, 1, none⟩ = some v := h.row.cell 1 rfl
  have hb1 : b < w.heap.size + 1 := by omega
  obtain ⟨a, c, rfl⟩ := Segs.val h.segs
  clear h
  go_enter Try.func23, Try.ntmps23
  go_wp2
  (try simp only [Exit.inBlock, Exit.then])
  refine bodyPost_ret (results_cur _ _ w.heap.size 0 0 false (by apply cast; (case h => (repeat (first | (with_reducible assumption) | (with_reducible apply Row.at; (simp; done)) | (with_reducible apply Row.alloc) | (with_reducible apply Row.drew) | (with_reducible apply Row.drewN) | (with_reducible apply Row.set) | ((with_reducible apply Row.other); (case hp => first | (simp; done) | (simp; omega) | omega))))); (case e => rfl)) rfl rfl) rfl ?_
  exact ⟨rfl, by (repeat' (first | (with_reducible exact Up.refl _) | (with_reducible assumption) | (with_reducible refine Up.alloc ?_ _) | (with_reducible refine Up.drew ?_) | (with_reducible refine Up.drewN ?_ _) | (with_reducible refine Up.setCell ?_ ?_ _) | (with_reducible refine Up.call ?_ (by with_reducible assumption)) | go_size))⟩

set_option maxRecDepth 8000 in
set_option maxHeartbeats 2000000 in
theorem rcur_calls (b : Nat) (v : Value) (most : Int) (l : List Seg) (w : World) (h : RefIs w b v most l) (h0 : l ≠ []) (x y : Int) (hxy : curOf l = (x, y)) :
    Calls Try.prog 23 #[.pointer (some ⟨b, 0, none⟩)] w fun E w' => E = .returned (.tuple #[.agg #[.int .i64 x, .int .i64 y], .bool true]) ∧ Up w w' := by
  have hlt := h.row.lt
  have hlen := h.len
  have HR := Lib.hid h
  rcases h.segs.form with ⟨rfl, rfl⟩ | ⟨g, cap, rfl, hn, hm, hg⟩
  · exact absurd rfl h0
  obtain ⟨k, hk⟩ : ∃ k, l.length = k + 1 := ⟨l.length - 1, by have := List.length_pos_iff.2 h0; omega⟩
  obtain ⟨kk, x0, y0, x1, y1, x2, y2, hsg⟩ : ∃ kk x0 y0 x1 y1 x2 y2, l[k]? = some ⟨kk, (x0, y0), (x1, y1), (x2, y2)⟩ := ⟨_, _, _, _, _, _, _, List.getElem?_eq_getElem (by omega)⟩
  have q1 : w.cell? ⟨b, 1, none⟩ = some (.slice (some ⟨g, 0, none⟩) (k + 1) cap) := by have := h.row.cell 1 rfl; rwa [hk] at this
  have c0 := h.segs.at k _ hsg 0 (by decide) _ rfl
  have c1 := h.segs.at k _ hsg 1 (by decide) _ rfl
  have c2 := h.segs.at k _ hsg 2 (by decide) _ rfl
  have c3 := h.segs.at k _ hsg 3 (by decide) _ rfl
  have c4 := h.segs.at k _ hsg 4 (by decide) _ rfl
  have c5 := h.segs.at k _ hsg 5 (by decide) _ rfl
  have c6 := h.segs.at k _ hsg 6 (by decide) _ rfl
  rw [Nat.add_zero] at c0
  dsimp only at c0 c1 c2 c3 c4 c5 c6
  have HE := Lib.hid (show (if kk = 4 then startOf l else if kk = 3 then (x2, y2) else (x0, y0)) = (x, y) by
    have e : l.getLast? = some ⟨kk, (x0, y0), (x1, y1), (x2, y2)⟩ := by rw [List.getLast?_eq_getElem?, hk, Nat.add_sub_cancel, hsg]
    rw [← hxy]
    unfold curOf
    rw [e])
  have hb1 : b < w.heap.size + 1 := by omega
  have hb2 : b < w.heap.size + 1 + 1 := by omega
  have hg1 : g < w.heap.size + 1 := by omega
  have hg2 : g < w.heap.size + 1 + 1 := by omega
  have hk2 : k + 1 ≤ 100000000 := by omega
  clear h hsg hxy
  have dk : (((k : Int) + 1) == 0) = false := by rw [beq_eq_false_iff_ne]; omega
  by_cases h4 : kk = 4
  · subst h4
    have HS := Lib.hid (show startOf l = (x, y) from HE.out)
    clear HE
    go_enter Try.func23, Try.ntmps23
    go_wp2
    go_region
    go_wp2_with (go_at_call 38; ((with_reducible refine (start_calls b (.slice (some ⟨g, 0, none⟩) l.length cap) most l _ (HR.out.up (by (repeat' (first | (with_reducible exact Up.refl _) | (with_reducible assumption) | (with_reducible refine Up.alloc ?_ _) | (with_reducible refine Up.drew ?_) | (with_reducible refine Up.drewN ?_ _) | (with_reducible refine Up.setCell ?_ ?_ _) | (with_reducible refine Up.call ?_ (by with_reducible assumption)) | go_size)))) x y HS.out).mono ?_); rintro E w1 ⟨rfl, hu1⟩; have r2 : Row w1 w.heap.size #[.int .i64 0, .int .i64 0] := Row.up (show Row _ w.heap.size #[.int .i64 0, .int .i64 0] by (repeat' (first | (with_reducible assumption) | (with_reducible refine Row.at _ _ ?_; (simp; done)) | (with_reducible refine Row.alloc ?_ _) | (with_reducible refine Row.drew ?_) | (with_reducible refine Row.drewN ?_ _) | (with_reducible refine Row.other ?_ (by first | (simp; done) | (simp; omega) | omega) _) | (with_reducible refine Row.up ?_ (by with_reducible assumption)) | (with_reducible refine Row.chg ?_ (by with_reducible assumption) (by first | (simp; done) | (simp; omega)))))) hu1; have t0 : w1.cell? ⟨w.heap.size, 0, none⟩ = some (.int .i64 0) := r2.cell 0 rfl; have t1 : w1.cell? ⟨w.heap.size, 1, none⟩ = some (.int .i64 0) := r2.cell 1 rfl; have f0 := r2.free 0; have f1 := r2.free 1; have lr := r2.lt))
    (try simp only [Exit.inBlock, Exit.then])
    refine bodyPost_ret (results_cur _ _ w.heap.size x y true (by apply cast; (case h => (repeat (first | (with_reducible assumption) | (with_reducible apply Row.at; (simp; done)) | (with_reducible apply Row.alloc) | (with_reducible apply Row.drew) | (with_reducible apply Row.drewN) | (with_reducible apply Row.set) | ((with_reducible apply Row.other); (case hp => first | (simp; done) | (simp; omega) | omega))))); (case e => rfl)) rfl rfl) rfl ?_
    exact ⟨rfl, by (repeat' (first | (with_reducible exact Up.refl _) | (with_reducible assumption) | (with_reducible refine Up.alloc ?_ _) | (with_reducible refine Up.drew ?_) | (with_reducible refine Up.drewN ?_ _) | (with_reducible refine Up.setCell ?_ ?_ _) | (with_reducible refine Up.call ?_ (by with_reducible assumption)) | go_size))⟩
  · have d4 : (kk == 4) = false := by simpa using h4
    by_cases h3 : kk = 3
    · subst h3
      obtain ⟨rfl, rfl⟩ : x2 = x ∧ y2 = y := by
        have := HE.out
        rw [if_neg h4, if_pos rfl] at this
        injection this with e1 e2
        exact ⟨e1, e2⟩
      clear HE h4
      go_enter Try.func23, Try.ntmps23
      go_wp2
      go_region
      go_wp2
      (try simp only [Exit.inBlock, Exit.then])
      refine bodyPost_ret (results_cur _ _ w.heap.size x2 y2 true (by apply cast; (case h => (repeat (first | (with_reducible assumption) | (with_reducible apply Row.at; (simp; done)) | (with_reducible apply Row.alloc) | (with_reducible apply Row.drew) | (with_reducible apply Row.drewN) | (with_reducible apply Row.set) | ((with_reducible apply Row.other); (case hp => first | (simp; done) | (simp; omega) | omega))))); (case e => rfl)) rfl rfl) rfl ?_
      exact ⟨rfl, by (repeat' (first | (with_reducible exact Up.refl _) | (with_reducible assumption) | (with_reducible refine Up.alloc ?_ _) | (with_reducible refine Up.drew ?_) | (with_reducible refine Up.drewN ?_ _) | (with_reducible refine Up.setCell ?_ ?_ _) | (with_reducible refine Up.call ?_ (by with_reducible assumption)) | go_size))⟩
    · have d3 : (kk == 3) = false := by simpa using h3
      obtain ⟨rfl, rfl⟩ : x0 = x ∧ y0 = y := by
        have := HE.out
        rw [if_neg h4, if_neg h3] at this
        injection this with e1 e2
        exact ⟨e1, e2⟩
      clear HE h4 h3
      go_enter Try.func23, Try.ntmps23
      go_wp2
      go_region
      go_wp2
      (try simp only [Exit.inBlock, Exit.then])
      refine bodyPost_ret (results_cur _ _ w.heap.size x0 y0 true (by apply cast; (case h => (repeat (first | (with_reducible assumption) | (with_reducible apply Row.at; (simp; done)) | (with_reducible apply Row.alloc) | (with_reducible apply Row.drew) | (with_reducible apply Row.drewN) | (with_reducible apply Row.set) | ((with_reducible apply Row.other); (case hp => first | (simp; done) | (simp; omega) | omega))))); (case e => rfl)) rfl rfl) rfl ?_
      exact ⟨rfl, by (repeat' (first | (with_reducible exact Up.refl _) | (with_reducible assumption) | (with_reducible refine Up.alloc ?_ _) | (with_reducible refine Up.drew ?_) | (with_reducible refine Up.drewN ?_ _) | (with_reducible refine Up.setCell ?_ ?_ _) | (with_reducible refine Up.call ?_ (by with_reducible assumption)) | go_size))⟩

end Go.Proofs.Ytgfkfhkgidmepaa.Path
