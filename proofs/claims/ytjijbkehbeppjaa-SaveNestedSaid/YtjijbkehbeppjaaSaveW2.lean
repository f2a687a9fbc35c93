/- A mark is made. -/
import Derived.Test.YtjijbkehbeppjaaSaveW
import Derived.Deep.RegionLaw
namespace Go.Proofs.Ytjijbkehbeppjaa.Save
open Go.ChangeShapes Go.WideShapes Go.ChangeAt Go.RowKit
set_option linter.unusedVariables false
set_option linter.unusedSimpArgs false

theorem szOne (free : Int) : ∀ u ∈ szCells free, u.oneCell' = true := by
  intro u hu
  simp only [szCells, List.mem_cons, List.not_mem_nil, or_false] at hu
  rcases hu with rfl | rfl | rfl | rfl | rfl <;> rfl

set_option maxRecDepth 4000 in
set_option maxHeartbeats 1000000 in
theorem mark_calls (b : Nat) (v : Value) (free : Int) (n : Nat) (w : World) (h : StoreIs w b v free n) (hn : n + 1 ≤ 1000) :
    Calls Try.prog 37 #[.pointer (some ⟨b, 0, none⟩)] w fun E w' => E = .returned (.int .i64 ((n : Int) + 1)) ∧ ∃ v', StoreIs w' b v' free (n + 1) ∧ Chg (b :: own v) w w' ∧ Own w v v' := by
  have hb := h.row.lt
  have q5 : w.cell? ⟨b, 5, none⟩ = some v := h.row.cell 5 rfl
  have hR := Lib.hid h.row
  have HS := Lib.hid h
  have ha := Lib.hid h.apart
  obtain ⟨i0, ji, jz0, jz1, jz2⟩ := info_parts infoSizes
  clear h
  go_enter Try.func37, Try.ntmps37
  go_wp2
  go_region_law (first
    | (go_simp; go_at_call 56; ((with_reducible refine (now_calls b v free n _ (HS.out.up (by (repeat' (first | (with_reducible exact Up.refl _) | (with_reducible assumption) | (with_reducible refine Up.alloc ?_ _) | (with_reducible refine Up.drew ?_) | (with_reducible refine Up.drewN ?_ _) | (with_reducible refine Up.setCell ?_ ?_ _) | (with_reducible refine Up.call ?_ (by with_reducible assumption)) | go_size))))).mono ?_); rintro E w1 ⟨rfl, hu1⟩; have hu1 : Up w w1 := (by (repeat' (first | (with_reducible exact Up.refl _) | (with_reducible assumption) | (with_reducible refine Up.alloc ?_ _) | (with_reducible refine Up.drew ?_) | (with_reducible refine Up.drewN ?_ _) | (with_reducible refine Up.setCell ?_ ?_ _) | (with_reducible refine Up.call ?_ (by with_reducible assumption)) | go_size))); have q51 : w1.cell? ⟨b, 5, none⟩ = some v := (hu1.cells.1 b 5 hb).trans q5; have l1 : b < w1.heap.size := Nat.lt_of_lt_of_le hb hu1.size; have l2 : b < w1.heap.size + 1 := (by omega)))
    | (refine step_append_lies _ rfl _ _ 84 rfl 0 118 i0 _ 5 40 Try.underlying84 ji jz0 jz1 jz2 rfl (by decide) v n (marks free n) rfl (owned_up HS.out.own (by (repeat' (first | (with_reducible exact Up.refl _) | (with_reducible assumption) | (with_reducible refine Up.alloc ?_ _) | (with_reducible refine Up.drew ?_) | (with_reducible refine Up.drewN ?_ _) | (with_reducible refine Up.setCell ?_ ?_ _) | (with_reducible refine Up.call ?_ (by with_reducible assumption)) | go_size)))) _ 1 1 (szCells free) rfl rfl (news_at (show Row _ _ #[.int .i64 0, .int .i64 0, .int .i64 0, .int .i64 free, .int .i64 0] by (repeat' (first | (with_reducible assumption) | (with_reducible refine Row.at _ _ ?_; (simp; done)) | (with_reducible refine Row.alloc ?_ _) | (with_reducible refine Row.drew ?_) | (with_reducible refine Row.drewN ?_ _) | (with_reducible refine Row.other ?_ (by first | (simp; done) | (simp; omega) | omega) _) | (with_reducible refine Row.up ?_ (by with_reducible assumption)) | (with_reducible refine Row.chg ?_ (by with_reducible assumption) (by first | (simp; done) | (simp; omega)))))) rfl) (szOne free) (by decide) (by unfold maxLen; omega) (by omega) (Nat.zero_le _) _ rfl ?_; intro g cap w2 hown hgr hat hg1; have hC : Chg (own v) w w2 := Chg.grown (Chg.of_up (by (repeat' (first | (with_reducible exact Up.refl _) | (with_reducible assumption) | (with_reducible refine Up.alloc ?_ _) | (with_reducible refine Up.drew ?_) | (with_reducible refine Up.drewN ?_ _) | (with_reducible refine Up.setCell ?_ ?_ _) | (with_reducible refine Up.call ?_ (by with_reducible assumption)) | go_size)))) hgr (fun k hk => Or.inl (own_mem hk)); have hRw := hR.out.chg hC (fun hm => ha.out b (own_of hm) rfl); have q52 : w2.cell? ⟨b, 5, none⟩ = some v := hRw.cell 5 rfl; have f52 := hRw.free 5; have HO := Lib.hid hown; have HA := Lib.hid hat; have HC := Lib.hid hC; have HRw := Lib.hid hRw; clear hown hat hC hRw hgr))
  all_goals go_wp2
  all_goals
    have hz1 := hu1.size
    have hgb : g ≠ b := by
      rcases HA.out with h1 | h1
      · exact ha.out g h1
      · simp at h1; omega
    go_ret
    refine ⟨rfl, .slice (some ⟨g, 0, none⟩) (n + 1) cap, ⟨Row.put HRw.out rfl, ?_, hn⟩, ?_, ?_⟩
    · have h1 := HO.out
      rw [marks_succ] at h1
      exact ownsRow_setCell_other h1 (fun e => by simp only [Value.ownBlock, Option.some.injEq] at e; exact hgb e) _
    · exact (HC.out.mono (fun x hx => List.mem_cons_of_mem _ hx)).setCell (Or.inl (by simp)) _
    · intro g' hg'
      simp only [Value.ownBlock, Option.some.injEq] at hg'
      subst hg'
      rcases HA.out with h1 | h1
      · exact Or.inl h1
      · exact Or.inr (by simp at h1; omega)

end Go.Proofs.Ytjijbkehbeppjaa.Save
