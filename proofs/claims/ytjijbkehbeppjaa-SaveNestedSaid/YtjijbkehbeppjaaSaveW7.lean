/- All is as it was at a mark. -/
import Derived.Test.YtjijbkehbeppjaaSaveW6
import Derived.Deep.RegionLaw
namespace Go.Proofs.Ytjijbkehbeppjaa.Save
open Go.ChangeShapes Go.WideShapes Go.ChangeAt Go.RowKit
open Go.Proofs.Ytjijbkehbeppjaa.SaveM
set_option linter.unusedVariables false
set_option linter.unusedSimpArgs false

theorem owned_take {w : World} {e : TypeId} {k n j g cap : Nat} {xs : List Value} (h : w.ownsRow 0 e k (.slice (some ⟨g, 0, none⟩) n cap) n xs) (hj : j ≤ n) : w.ownsRow 0 e k (.slice (some ⟨g, 0, none⟩) j cap) j (xs.take (j * k)) := by
  rcases h.2 with ⟨h1, _⟩ | ⟨g', cap', cur, hv, hb, hg, hn, hm, hs, ht⟩
  · cases h1
  · injection hv with e1 e2 e3
    injection e1 with e1
    injection e1 with e4 e5
    subst e4 e3
    refine ⟨?_, Or.inr ⟨g, cap, cur, rfl, hb, hg, by omega, hm, hs, ?_⟩⟩
    · rw [List.length_take, h.1]
      exact Nat.min_eq_left (Nat.mul_le_mul_right _ hj)
    · rw [← ht, List.take_take, Nat.min_eq_left (Nat.mul_le_mul_right _ hj)]
theorem marks_take (free : Int) (n k : Nat) (h : k ≤ n) : (marks free n).take (k * 5) = marks free k := by
  unfold marks
  induction n generalizing k with
  | zero =>
    obtain rfl : k = 0 := by omega
    rfl
  | succ n ih =>
    cases k with
    | zero => simp
    | succ k =>
      rw [List.replicate_succ, List.replicate_succ, List.flatten_cons, List.flatten_cons, List.take_append, ← ih k (by omega)]
      rw [show (szCells free).length = 5 from rfl, show (k + 1) * 5 - 5 = k * 5 by omega, List.take_of_length_le (by simp [szCells]; omega)]
theorem marks_at (free : Int) : ∀ (n k j : Nat), k < n → j < 5 → (marks free n)[k * 5 + j]? = (szCells free)[j]?
  | 0, k, j, h, _ => absurd h (Nat.not_lt_zero _)
  | n + 1, 0, j, _, hj => by
    have : marks free (n + 1) = szCells free ++ marks free n := by simp [marks, List.replicate_succ]
    rw [this, Nat.zero_mul, Nat.zero_add, List.getElem?_append_left (by simpa [szCells] using hj)]
  | n + 1, k + 1, j, h, hj => by
    have : marks free (n + 1) = szCells free ++ marks free n := by simp [marks, List.replicate_succ]
    rw [this, List.getElem?_append_right (by simp [szCells]; omega), ← marks_at free n k j (by omega) hj]
    congr 1
    simp [szCells]
    omega
theorem marked_calls (b : Nat) (v : Value) (free : Int) (n k : Nat) (w : World) (h : StoreIs w b v free n) (hk : k < n) :
    Calls Try.prog 60 #[.pointer (some ⟨b, 0, none⟩), .int .i64 ((k : Int) + 1)] w fun E w' => E = .returned (.bool true) ∧ w = w' := by
  have q5 : w.cell? ⟨b, 5, none⟩ = some v := h.row.cell 5 rfl
  obtain ⟨a, cap, rfl⟩ := owned_val h.own
  have d1 : decide ((1 : Int) ≤ (k : Int) + 1) = true := decide_eq_true (by omega)
  have d2 : decide ((k : Int) + 1 ≤ (n : Int)) = true := decide_eq_true (by omega)
  clear h
  go_enter Try.func60, Try.ntmps60
  go_wp2
  go_ret
  exact ⟨rfl, rfl⟩

set_option maxRecDepth 8000 in
set_option maxHeartbeats 4000000 in
theorem back_calls (b : Nat) (v : Value) (free : Int) (n k : Nat) (w : World) (h : StoreIs w b v free n) (hk : k < n) :
    Calls Try.prog 42 #[.pointer (some ⟨b, 0, none⟩), .int .i64 ((k : Int) + 1)] w fun E w' => E = .returned (.int .i64 0) ∧ ∃ v', StoreIs w' b v' free (k + 1) ∧ Chg [b] w w' ∧ v'.ownBlock = v.ownBlock := by
  have hb := h.row.lt
  have hlen := h.len
  have HR := Lib.hid h.row
  have HS := Lib.hid h
  have hap := Lib.hid h.apart
  rcases owned_form h.own with ⟨_, rfl⟩ | ⟨g, cap, rfl, hn, hm, hg⟩
  · omega
  have HO := Lib.hid h.own
  have q0 : w.cell? ⟨b, 0, none⟩ = some (.int .i64 free) := h.row.cell 0 rfl
  have q1 : w.cell? ⟨b, 1, none⟩ = some (.slice none 0 0) := h.row.cell 1 rfl
  have q2 : w.cell? ⟨b, 2, none⟩ = some (.slice none 0 0) := h.row.cell 2 rfl
  have q3 : w.cell? ⟨b, 3, none⟩ = some (.slice none 0 0) := h.row.cell 3 rfl
  have q4 : w.cell? ⟨b, 4, none⟩ = some (.slice none 0 0) := h.row.cell 4 rfl
  have q5 : w.cell? ⟨b, 5, none⟩ = some (.slice (some ⟨g, 0, none⟩) n cap) := h.row.cell 5 rfl
  have f0 := h.row.free 0
  have f1 := h.row.free 1
  have f2 := h.row.free 2
  have f3 := h.row.free 3
  have f4 := h.row.free 4
  have f5 := h.row.free 5
  have m0 : w.cell? ⟨g, k * 5, none⟩ = some (.int .i64 0) := (h.own.cellAt _ (by omega)).trans (marks_at free n k 0 hk (by decide))
  have m1 : w.cell? ⟨g, k * 5 + 1, none⟩ = some (.int .i64 0) := (h.own.cellAt _ (by omega)).trans (marks_at free n k 1 hk (by decide))
  have m2 : w.cell? ⟨g, k * 5 + 2, none⟩ = some (.int .i64 0) := (h.own.cellAt _ (by omega)).trans (marks_at free n k 2 hk (by decide))
  have m3 : w.cell? ⟨g, k * 5 + 3, none⟩ = some (.int .i64 free) := (h.own.cellAt _ (by omega)).trans (marks_at free n k 3 hk (by decide))
  have m4 : w.cell? ⟨g, k * 5 + 4, none⟩ = some (.int .i64 0) := (h.own.cellAt _ (by omega)).trans (marks_at free n k 4 hk (by decide))
  have hb1 : b < w.heap.size + 1 := by omega
  have nb : ¬ b = w.heap.size := by omega
  have nb' : ¬ w.heap.size = b := by omega
  clear h
  go_enter Try.func42, Try.ntmps42
  go_wp2_with (go_at_call 60; ((with_reducible refine (marked_calls b (.slice (some ⟨g, 0, none⟩) n cap) free n k _ HS.out hk).mono ?_); rintro E w1 ⟨rfl, rfl⟩))
  refine wp_loop_rounds 1 ?_
  repeat any_goals (rw [rounds_succ]; go_wp2)
  go_region
  go_wp2
  go_region
  go_wp2
  go_ret
  have R := HR.out
  refine ⟨rfl, .slice (some ⟨g, 0, none⟩) (k + 1) cap, ⟨(by apply cast; (case h => (repeat (first | (with_reducible assumption) | (with_reducible apply Row.at; (simp; done)) | (with_reducible apply Row.alloc) | (with_reducible apply Row.drew) | (with_reducible apply Row.drewN) | (with_reducible apply Row.set) | ((with_reducible apply Row.other); (case hp => first | (simp; done) | (simp; omega) | omega))))); (case e => rfl)), ?_, by omega⟩, by (repeat' (first | (with_reducible exact Chg.refl _ _) | (with_reducible assumption) | (with_reducible refine Chg.alloc ?_ _) | (with_reducible refine Chg.drew ?_) | (with_reducible refine Chg.drewN ?_ _) | (with_reducible refine Chg.setCell ?_ ?_ _) | (with_reducible refine Chg.upc ?_ (by with_reducible assumption)) | (with_reducible refine Chg.call ?_ (by with_reducible assumption) ?_) | (refine Or.inl ?_; (simp; done)) | (simp; done) | (simp; omega) | omega)), rfl⟩
  have h1 := owned_take HO.out (show k + 1 ≤ n by omega)
  rw [marks_take free n (k + 1) (by omega)] at h1
  exact owned_chg (S := [b]) h1 (by (repeat' (first | (with_reducible exact Chg.refl _ _) | (with_reducible assumption) | (with_reducible refine Chg.alloc ?_ _) | (with_reducible refine Chg.drew ?_) | (with_reducible refine Chg.drewN ?_ _) | (with_reducible refine Chg.setCell ?_ ?_ _) | (with_reducible refine Chg.upc ?_ (by with_reducible assumption)) | (with_reducible refine Chg.call ?_ (by with_reducible assumption) ?_) | (refine Or.inl ?_; (simp; done)) | (simp; done) | (simp; omega) | omega))) (fun g' hg' => by simpa using hap.out g' (by simpa [Value.ownBlock] using hg'))

set_option maxRecDepth 8000 in
set_option maxHeartbeats 4000000 in
theorem restore_good (bs bt : Nat) (vl vm : Value) (l : List Sv) (last free : Int) (n : Nat) (exec : Bool) (acc N : Int) (name : ByteArray) (ref frm ln : Int) (j : Nat) (num : Int) (k : Nat) (w : World) (h : SavesIs w bs bt vl vm l last free n) (hg : l[j]? = some (num, (k : Int) + 1)) (hk : k < n) (hat : atS 10 N l = j) :
    Calls Try.prog 11 #[.pointer (some ⟨bs, 0, none⟩), .agg #[.int .i64 10, .bool exec, .int .i64 acc, .int .i64 N, .string name, .int .i64 ref, .int .i64 frm, .int .i64 ln], .slice none 0 0] w fun E w' => E = .returned (.int .i64 0) ∧
      ∃ vl' vm', SavesIs w' bs bt vl' vm' (l.take j) last free (k + 1) ∧ Chg [bs, bt] w w' ∧ vl'.ownBlock = vl.ownBlock ∧ vm'.ownBlock = vm.ownBlock := by
  have q0 : w.cell? ⟨bs, 0, none⟩ = some (.pointer (some ⟨bt, 0, none⟩)) := h.row.cell 0 rfl
  have q1 : w.cell? ⟨bs, 1, none⟩ = some vl := h.row.cell 1 rfl
  have hbs := h.row.lt
  have hb1 : bs < w.heap.size + 1 := by omega
  have hjl : j < l.length := (List.getElem?_eq_some_iff.1 hg).1
  have HS := Lib.hid h
  have HA := Lib.hid hat
  have HNE := Lib.hid (show bt ∉ [bs] by simpa using Ne.symm h.ne)
  rcases owned_form h.own with ⟨_, h0⟩ | ⟨g, cap, rfl, hn, hm, hgw⟩
  · omega
  obtain ⟨e0, e1⟩ := stCells_at l j _ hg
  have m0 : w.cell? ⟨g, j * 2, none⟩ = some (.int .i64 num) := (h.own.cellAt _ (by omega)).trans e0
  have m1 : w.cell? ⟨g, j * 2 + 1, none⟩ = some (.int .i64 ((k : Int) + 1)) := (h.own.cellAt _ (by omega)).trans e1
  have hlen := h.len
  clear h hat e0 e1 hg
  go_enter Try.func11, Try.ntmps11
  go_wp2_with (first
    | (go_at_call 38; ((with_reducible refine (at_calls bs bt (.slice (some ⟨g, 0, none⟩) l.length cap) vm l last free n 10 exec acc N name ref frm ln _ (HS.out.up (by (repeat' (first | (with_reducible exact Up.refl _) | (with_reducible assumption) | (with_reducible refine Up.alloc ?_ _) | (with_reducible refine Up.drew ?_) | (with_reducible refine Up.drewN ?_ _) | (with_reducible refine Up.setCell ?_ ?_ _) | (with_reducible refine Up.call ?_ (by with_reducible assumption)) | go_size))))).mono ?_); rintro E w1 ⟨rfl, hu1⟩; rw [HA.out]; have hz1 := hu1.size; simp at hz1; have hv1 : Up w w1 := (by (repeat' (first | (with_reducible exact Up.refl _) | (with_reducible assumption) | (with_reducible refine Up.alloc ?_ _) | (with_reducible refine Up.drew ?_) | (with_reducible refine Up.drewN ?_ _) | (with_reducible refine Up.setCell ?_ ?_ _) | (with_reducible refine Up.call ?_ (by with_reducible assumption)) | go_size))); have q01 := (hv1.cells.1 bs 0 hbs).trans q0; have q11 := (hv1.cells.1 bs 1 hbs).trans q1; have m01 := (hv1.cells.1 g (j * 2) hgw).trans m0; have m11 := (hv1.cells.1 g (j * 2 + 1) hgw).trans m1; have hb11 : bs < w1.heap.size := (by omega); have hg11 : g < w1.heap.size := (by omega); have hb12 : bs < w1.heap.size + 1 := (by omega); have r1 : Row w1 w.heap.size #[.pointer (some ⟨bs, 0, none⟩)] := Row.up (show Row _ w.heap.size #[.pointer (some ⟨bs, 0, none⟩)] by (repeat' (first | (with_reducible assumption) | (with_reducible refine Row.at _ _ ?_; (simp; done)) | (with_reducible refine Row.alloc ?_ _) | (with_reducible refine Row.drew ?_) | (with_reducible refine Row.drewN ?_ _) | (with_reducible refine Row.other ?_ (by first | (simp; done) | (simp; omega) | omega) _) | (with_reducible refine Row.up ?_ (by with_reducible assumption)) | (with_reducible refine Row.chg ?_ (by with_reducible assumption) (by first | (simp; done) | (simp; omega)))))) hu1; have r2 : Row w1 (w.heap.size + 1) #[.int .i64 10, .bool exec, .int .i64 acc, .int .i64 N, .string name, .int .i64 ref, .int .i64 frm, .int .i64 ln] := Row.up (show Row _ (w.heap.size + 1) #[.int .i64 10, .bool exec, .int .i64 acc, .int .i64 N, .string name, .int .i64 ref, .int .i64 frm, .int .i64 ln] by (repeat' (first | (with_reducible assumption) | (with_reducible refine Row.at _ _ ?_; (simp; done)) | (with_reducible refine Row.alloc ?_ _) | (with_reducible refine Row.drew ?_) | (with_reducible refine Row.drewN ?_ _) | (with_reducible refine Row.other ?_ (by first | (simp; done) | (simp; omega) | omega) _) | (with_reducible refine Row.up ?_ (by with_reducible assumption)) | (with_reducible refine Row.chg ?_ (by with_reducible assumption) (by first | (simp; done) | (simp; omega)))))) hu1; have c1 : w1.cell? ⟨w.heap.size, 0, none⟩ = some (.pointer (some ⟨bs, 0, none⟩)) := r1.cell 0 rfl; have c2 : w1.cell? ⟨w.heap.size + 1, 0, none⟩ = some (.int .i64 10) := r2.cell 0 rfl; have l1 := r1.lt; have l11 : w.heap.size < w1.heap.size + 1 := (by omega); have f11 : w1.frozen? ⟨bs, 1, none⟩ = false := (hv1.cells.2 bs 1 hbs).trans (HS.out.row.free 1); have rb1 := HS.out.row.up hv1))
    | (go_at_call 36; ((with_reducible refine (none_calls bs bt _ q01).mono ?_); rintro E w2 ⟨rfl, rfl⟩)))
  refine wp_loop_rounds 1 ?_
  repeat any_goals (rw [rounds_succ]; go_wp2)
  go_region
  go_wp2
  go_region_law (go_simp; go_at_call 42; ((with_reducible refine (back_calls bt vm free n k _ (HS.out.st.chg (S := [bs]) (by (repeat' (first | (with_reducible exact Chg.refl _ _) | (with_reducible assumption) | (with_reducible refine Chg.alloc ?_ _) | (with_reducible refine Chg.drew ?_) | (with_reducible refine Chg.drewN ?_ _) | (with_reducible refine Chg.setCell ?_ ?_ _) | (with_reducible refine Chg.upc ?_ (by with_reducible assumption)) | (with_reducible refine Chg.call ?_ (by with_reducible assumption) ?_) | (refine Or.inl ?_; (simp; done)) | (simp; done) | (simp; omega) | omega))) HNE.out (fun g' hg' => by simpa using HS.out.ap3 g' hg')) hk).mono ?_); rintro E w3 ⟨rfl, vm3, hst3, hc3, ho3⟩; have HB3 := Lib.hid (Row.chg (S := [bt]) (show Row _ bs #[.pointer (some ⟨bt, 0, none⟩), .slice (some ⟨g, 0, none⟩) j cap, .int .i64 last] from (by apply cast; (case h => (repeat (first | (with_reducible assumption) | (with_reducible apply Row.at; (simp; done)) | (with_reducible apply Row.alloc) | (with_reducible apply Row.drew) | (with_reducible apply Row.drewN) | (with_reducible apply Row.set) | ((with_reducible apply Row.other); (case hp => first | (simp; done) | (simp; omega) | omega))))); (case e => rfl))) hc3 (by simpa using HS.out.ne)); have HO3 := Lib.hid (owned_chg (S := [bt]) (owned_chg (S := [bs]) (owned_take HS.out.own (show j ≤ l.length by omega)) (by (repeat' (first | (with_reducible exact Chg.refl _ _) | (with_reducible assumption) | (with_reducible refine Chg.alloc ?_ _) | (with_reducible refine Chg.drew ?_) | (with_reducible refine Chg.drewN ?_ _) | (with_reducible refine Chg.setCell ?_ ?_ _) | (with_reducible refine Chg.upc ?_ (by with_reducible assumption)) | (with_reducible refine Chg.call ?_ (by with_reducible assumption) ?_) | (refine Or.inl ?_; (simp; done)) | (simp; done) | (simp; omega) | omega))) (fun g' hg' => by simpa using HS.out.ap2 g' hg')) hc3 (fun g' hg' => by simpa using HS.out.ap g' hg')); have HC3 := Lib.hid ((show Chg [bs, bt] w _ from Chg.mono (S := [bs]) (by (repeat' (first | (with_reducible exact Chg.refl _ _) | (with_reducible assumption) | (with_reducible refine Chg.alloc ?_ _) | (with_reducible refine Chg.drew ?_) | (with_reducible refine Chg.drewN ?_ _) | (with_reducible refine Chg.setCell ?_ ?_ _) | (with_reducible refine Chg.upc ?_ (by with_reducible assumption)) | (with_reducible refine Chg.call ?_ (by with_reducible assumption) ?_) | (refine Or.inl ?_; (simp; done)) | (simp; done) | (simp; omega) | omega))) (by simp)).call hc3 (fun x hx => Or.inl (by simp at hx; simp [hx]))); have HT3 := Lib.hid hst3; have HM3 := Lib.hid ho3; clear hst3 hc3 ho3))
  all_goals go_wp2
  all_goals
    go_ret
    refine ⟨rfl, .slice (some ⟨g, 0, none⟩) j cap, vm3, ⟨HB3.out, HT3.out, ?_, by simp; omega, fun g' hg' => HS.out.ap g' hg'⟩, HC3.out, rfl, HM3.out⟩
    have h1 := HO3.out
    rw [stCells_take] at h1
    rw [List.length_take, Nat.min_eq_left (by omega)]
    exact h1

end Go.Proofs.Ytjijbkehbeppjaa.Save
