/- A path in memory, and what its last segment is. -/
import Derived.Test.YteddlahklilncaaPathW
import Derived.BigQuiet
import Derived.Deep.QuietTactic
namespace Go.Proofs.Yteddlahklilncaa.Path
open Go.ChangeShapes Go.WideShapes Go.ChangeAt Go.RowKit
open Go.Proofs.Yteddlahklilncaa.FixM (fits)
open Go.Proofs.Yteddlahklilncaa.PathM
set_option linter.unusedVariables false
set_option linter.unusedSimpArgs false

/-- segments that a slice owns -/
abbrev Segs (w : World) (v : Value) (l : List Seg) : Prop := w.ownsRow 0 82 7 v l.length (segCells l)
def own (v : Value) : List Nat := match v.ownBlock with | some g => [g] | none => []
theorem own_mem {v : Value} {g : Nat} (h : v.ownBlock = some g) : g ∈ own v := by simp [own, h]
theorem own_of {v : Value} {g : Nat} (h : g ∈ own v) : v.ownBlock = some g := by
  unfold own at h
  split at h
  · simp only [List.mem_singleton] at h; subst h; assumption
  · simp at h
theorem Segs.form {w : World} {v : Value} {l : List Seg} (h : Segs w v l) : (v = .slice none 0 0 ∧ l = []) ∨ ∃ g cap, v = .slice (some ⟨g, 0, none⟩) l.length cap ∧ l.length ≤ cap ∧ cap ≤ maxLen ∧ g < w.heap.size := by
  rcases h.2 with ⟨h1, h2⟩ | ⟨g, cap, cur, hv, _, hg, hn, hm, _⟩
  · exact Or.inl ⟨h1, List.eq_nil_of_length_eq_zero h2⟩
  · exact Or.inr ⟨g, cap, hv, hn, hm, (Array.getElem?_eq_some_iff.1 hg).1⟩
theorem Segs.at {w : World} {g cap : Nat} {l : List Seg} (h : Segs w (.slice (some ⟨g, 0, none⟩) l.length cap) l) (i : Nat) (s : Seg) (hi : l[i]? = some s) (j : Nat) (hj : j < 7) (u : Value) (hu : s.cells[j]? = some u) :
    w.cell? ⟨g, i * 7 + j, none⟩ = some u := by
  have h1 : i < l.length := (List.getElem?_eq_some_iff.1 hi).1
  rw [h.cellAt (i * 7 + j) (by omega), segCells_at l i s j hi hj, hu]
theorem Segs.free {w : World} {g cap : Nat} {l : List Seg} (h : Segs w (.slice (some ⟨g, 0, none⟩) l.length cap) l) (i : Nat) : w.frozen? ⟨g, i, none⟩ = false := h.frozenAt i
theorem Segs.chg {S : List Nat} {w w1 : World} {v : Value} {l : List Seg} (h : Segs w v l) (hc : Chg S w w1) (hn : ∀ g, v.ownBlock = some g → g ∉ S) : Segs w1 v l := by
  refine ⟨h.1, ?_⟩
  rcases h.2 with h1 | ⟨g, cap, cur, hv, hb, hg, hr⟩
  · exact Or.inl h1
  · refine Or.inr ⟨g, cap, cur, hv, hb, ?_, hr⟩
    rw [hc.block g (Array.getElem?_eq_some_iff.1 hg).1 (hn g (by rw [hv]; rfl))]
    exact hg

/-- a path in memory -/
structure PathIs (w : World) (b : Nat) (v : Value) (t : St) : Prop where
  row : Row w b #[.int .i64 t.most, v, .int .i64 t.s.1, .int .i64 t.s.2, .int .i64 t.n.1, .int .i64 t.n.2]
  segs : Segs w v t.l
  len : t.l.length ≤ 100000000
/-- its slice's block is another one -/
theorem PathIs.apart {w : World} {b : Nat} {v : Value} {t : St} (h : PathIs w b v t) : ∀ g, v.ownBlock = some g → g ≠ b := by
  intro g hg e
  obtain ⟨ty, hb⟩ := h.row
  rcases h.segs.2 with ⟨h1, _⟩ | ⟨g', cap, cur, hv, _, hg', _, _, hs, _⟩
  · rw [h1] at hg; cases hg
  · rw [hv] at hg
    simp only [Value.ownBlock, Option.some.injEq] at hg
    subst hg e
    rw [hb] at hg'
    simp only [Option.some.injEq, Obj.cells.injEq] at hg'
    have := hg'.1
    subst this
    simp at hs
    omega
theorem PathIs.chg {S : List Nat} {w w1 : World} {b : Nat} {v : Value} {t : St} (h : PathIs w b v t) (hc : Chg S w w1) (hb : b ∉ S) (hn : ∀ g, v.ownBlock = some g → g ∉ S) : PathIs w1 b v t :=
  ⟨h.row.chg hc hb, h.segs.chg hc hn, h.len⟩
theorem PathIs.up {w w1 : World} {b : Nat} {v : Value} {t : St} (h : PathIs w b v t) (hc : Up w w1) : PathIs w1 b v t := h.chg (S := []) (Chg.of_up hc) (by simp) (by simp)

theorem PathIs.form {w : World} {b : Nat} {v : Value} {t : St} (h : PathIs w b v t) : ∃ ao cap, v = .slice ao t.l.length cap := by
  rcases h.segs.form with ⟨rfl, hl⟩ | ⟨g, cap, rfl, _⟩
  · exact ⟨none, 0, by rw [hl]; rfl⟩
  · exact ⟨_, _, rfl⟩
/-- a slice's block is the old one, or a new one -/
def Own (w : World) (v v' : Value) : Prop := ∀ g, v'.ownBlock = some g → v.ownBlock = some g ∨ w.heap.size ≤ g
theorem Own.refl (w : World) (v : Value) : Own w v v := fun g h => Or.inl h
theorem Chg.grown {S : List Nat} {w a c : World} {r : Option Nat} (h : Chg S w a) (hg : a.grownBy c r) (hr : ∀ k, r = some k → k ∈ S ∨ w.heap.size ≤ k) : Chg S w c :=
  ⟨hg.os.trans h.os, hg.tape.trans h.tape, hg.output.trans h.output, Nat.le_trans h.size hg.size, fun k hk hn => by
    rw [hg.block k (Nat.lt_of_lt_of_le hk h.size) (fun e => (hr k e.symm).elim hn (fun h2 => by omega)), h.block k hk hn]⟩

theorem last_calls (b : Nat) (v : Value) (t : St) (w : World) (h : PathIs w b v t) :
    Calls Try.prog 27 #[.pointer (some ⟨b, 0, none⟩)] w fun e w' => e = .returned (.int .i64 (lastK t.l)) ∧ Up w w' := by
  have hq1 := h.row.cell 1 rfl
  have hlt := h.row.lt
  have hlen := h.len
  rcases h.segs.form with ⟨rfl, hl⟩ | ⟨g, cap, rfl, hn, hm, hg⟩
  · have H := Lib.hid (show lastK t.l = 0 by rw [hl]; rfl)
    clear h
    go_enter Try.func27, Try.ntmps27
    go_wp2
    go_ret
    exact ⟨by rw [H.out]; rfl, by (repeat' (first | (with_reducible exact Up.refl _) | (with_reducible assumption) | (with_reducible refine Up.alloc ?_ _) | (with_reducible refine Up.drew ?_) | (with_reducible refine Up.drewN ?_ _) | (with_reducible refine Up.setCell ?_ ?_ _) | (with_reducible refine Up.call ?_ (by with_reducible assumption)) | go_size))⟩
  · by_cases h0 : t.l.length = 0
    · have H := Lib.hid (show lastK t.l = 0 by rw [List.eq_nil_of_length_eq_zero h0]; rfl)
      clear h
      rw [h0] at hq1
      go_enter Try.func27, Try.ntmps27
      go_wp2
      go_ret
      exact ⟨by rw [H.out]; rfl, by (repeat' (first | (with_reducible exact Up.refl _) | (with_reducible assumption) | (with_reducible refine Up.alloc ?_ _) | (with_reducible refine Up.drew ?_) | (with_reducible refine Up.drewN ?_ _) | (with_reducible refine Up.setCell ?_ ?_ _) | (with_reducible refine Up.call ?_ (by with_reducible assumption)) | go_size))⟩
    · obtain ⟨k, hk⟩ : ∃ k, t.l.length = k + 1 := ⟨t.l.length - 1, by omega⟩
      obtain ⟨s, hs⟩ : ∃ s, t.l[k]? = some s := ⟨t.l[k], List.getElem?_eq_getElem (by omega)⟩
      have hc := h.segs.at k s hs 0 (by decide) _ rfl
      rw [Nat.add_zero] at hc
      have H := Lib.hid (show lastK t.l = s.k by
        unfold lastK
        rw [List.getLast?_eq_getElem?, hk, Nat.add_sub_cancel, hs])
      clear h
      rw [hk] at hq1 hn hlen
      clear h0 hk hs
      go_enter Try.func27, Try.ntmps27
      go_wp2
      go_quiet (fail)
      go_wp2
      go_ret
      exact ⟨by rw [H.out]; rfl, by (repeat' (first | (with_reducible exact Up.refl _) | (with_reducible assumption) | (with_reducible refine Up.alloc ?_ _) | (with_reducible refine Up.drew ?_) | (with_reducible refine Up.drewN ?_ _) | (with_reducible refine Up.setCell ?_ ?_ _) | (with_reducible refine Up.call ?_ (by with_reducible assumption)) | go_size))⟩

end Go.Proofs.Yteddlahklilncaa.Path
