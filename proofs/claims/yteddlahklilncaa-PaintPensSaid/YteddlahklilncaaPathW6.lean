/- A path's copy, its segments, where it is, and an empty one. -/
import Derived.Test.YteddlahklilncaaPathW5
import Derived.Maps.AppendAt
import Derived.Lib.SliceRun
namespace Go.Proofs.Yteddlahklilncaa.Path
open Go.ChangeShapes Go.WideShapes Go.ChangeAt Go.RowKit
open Go.Proofs.Yteddlahklilncaa.FixM (fits)
open Go.Proofs.Yteddlahklilncaa.PathM
set_option linter.unusedVariables false
set_option linter.unusedSimpArgs false

theorem clone_calls (v : Value) (l : List Seg) (w : World) (h : Segs w v l) (hlen : l.length ≤ 100000000) :
    Calls Try.prog 60 #[v] w fun E w' => ∃ v', E = .returned v' ∧ Segs w' v' l ∧ Up w w' ∧ ∀ g, v'.ownBlock = some g → w.heap.size ≤ g := by
  rcases h.form with ⟨rfl, rfl⟩ | ⟨g, cap, rfl, hn, hm, hg⟩
  · clear h
    have heq := fun w => Lib.run_eql_slice_nil (P := Try.prog) w 48 82 none 0 0 0 0 Try.underlying48
    go_enter Try.func60, Try.ntmps60
    go_wp2
    go_ret
    exact ⟨_, rfl, World.ownsRow_nil _ _ _ _, by (repeat' (first | (with_reducible exact Up.refl _) | (with_reducible assumption) | (with_reducible refine Up.alloc ?_ _) | (with_reducible refine Up.drew ?_) | (with_reducible refine Up.drewN ?_ _) | (with_reducible refine Up.setCell ?_ ?_ _) | (with_reducible refine Up.call ?_ (by with_reducible assumption)) | go_size)), fun g hg => by cases hg⟩
  · obtain ⟨i0, hi, hz0, hz1, hz2⟩ := info_parts infoSeg
    have HS := Lib.hid h
    clear h
    have heq := fun w => Lib.run_eql_slice_nil (P := Try.prog) w 48 82 (some ⟨g, 0, none⟩) l.length cap 0 0 Try.underlying48
    go_enter Try.func60, Try.ntmps60
    go_wp2_with (at_builtin; refine wpList_append_own_at _ rfl _ _ 48 rfl 0 82 i0 _ 7 56 Try.underlying48 hi hz0 hz1 hz2 rfl (by decide) (.slice (some ⟨w.heap.size, 0, none⟩) 0 0) 0 [] rfl (World.ownsRow_made w #[] 0 (Nat.zero_le _) (by decide) rfl) ⟨g, 0, none⟩ l.length cap (segCells l) rfl (segCells_length l) (fun j u hu => by rw [add_plain, Nat.zero_add]; exact ((show Up w _ by (repeat' (first | (with_reducible exact Up.refl _) | (with_reducible assumption) | (with_reducible refine Up.alloc ?_ _) | (with_reducible refine Up.drew ?_) | (with_reducible refine Up.drewN ?_ _) | (with_reducible refine Up.setCell ?_ ?_ _) | (with_reducible refine Up.call ?_ (by with_reducible assumption)) | go_size))).cells.1 g j hg).trans (by have := HS.out.cells (g := g) rfl j u hu; rwa [add_plain, Nat.zero_add] at this)) (segCells_one l) (by unfold maxLen; omega) (by omega) (Nat.zero_le _) ?_; intro v1 w1 hown hgr hnil hat; have HO := Lib.hid hown; have HG := Lib.hid hgr; have HA := Lib.hid hat; clear hown hgr hnil hat)
    go_ret
    refine ⟨v1, rfl, ?_, ?_, ?_⟩
    · have := HO.out
      rw [Nat.zero_add, List.nil_append] at this
      exact this
    · exact grown_up (Up.alloc (Up.refl w) _) HG.out (fun k hk => by simp only [Value.ownBlock, Option.some.injEq] at hk; omega)
    · intro g2 h2
      rcases HA.out with h1 | h1
      · rw [h1] at h2; simp only [Value.ownBlock, Option.some.injEq] at h2; omega
      · rw [h1] at h2; simp at h2; omega

theorem segments_calls (b : Nat) (v : Value) (t : St) (w : World) (h : PathIs w b v t) :
    Calls Try.prog 46 #[.pointer (some ⟨b, 0, none⟩)] w fun E w' => ∃ v', E = .returned v' ∧ Segs w' v' t.l ∧ Up w w' ∧ ∀ g, v'.ownBlock = some g → w.heap.size ≤ g := by
  have hq : w.cell? ⟨b, 1, none⟩ = some v := h.row.cell 1 rfl
  have hlt := h.row.lt
  have HS := Lib.hid h.segs
  have hlen := h.len
  obtain ⟨ao, cap, rfl⟩ := h.form
  clear h
  go_enter Try.func46, Try.ntmps46
  go_wp2_with (go_at_call 60; ((with_reducible refine (clone_calls _ t.l _ HS.out hlen).mono ?_); rintro E w1 ⟨v1, rfl, h1, h2, h3⟩; have H1 := Lib.hid h1; have H3 := Lib.hid h3; clear h1 h3))
  go_ret
  exact ⟨v1, rfl, H1.out, by (repeat' (first | (with_reducible exact Up.refl _) | (with_reducible assumption) | (with_reducible refine Up.alloc ?_ _) | (with_reducible refine Up.drew ?_) | (with_reducible refine Up.drewN ?_ _) | (with_reducible refine Up.setCell ?_ ?_ _) | (with_reducible refine Up.call ?_ (by with_reducible assumption)) | go_size)), H3.out⟩

theorem new_calls (most : Int) (w : World) :
    Calls Try.prog 18 #[.int .i64 most] w fun E w' => E = .returned (.pointer (some ⟨w.heap.size, 0, none⟩)) ∧ Up w w' ∧ PathIs w' w.heap.size (.slice none 0 0) ⟨most, [], Z, Z⟩ := by
  go_enter Try.func18, Try.ntmps18
  go_wp2
  go_ret
  exact ⟨rfl, by (repeat' (first | (with_reducible exact Up.refl _) | (with_reducible assumption) | (with_reducible refine Up.alloc ?_ _) | (with_reducible refine Up.drew ?_) | (with_reducible refine Up.drewN ?_ _) | (with_reducible refine Up.setCell ?_ ?_ _) | (with_reducible refine Up.call ?_ (by with_reducible assumption)) | go_size)), ⟨(show Row _ w.heap.size #[.int .i64 most, .slice none 0 0, .int .i64 0, .int .i64 0, .int .i64 0, .int .i64 0] by (repeat' (first | (with_reducible assumption) | (with_reducible refine Row.at _ _ ?_; (simp; done)) | (with_reducible refine Row.alloc ?_ _) | (with_reducible refine Row.drew ?_) | (with_reducible refine Row.drewN ?_ _) | (with_reducible refine Row.other ?_ (by first | (simp; done) | (simp; omega) | omega) _) | (with_reducible refine Row.up ?_ (by with_reducible assumption)) | (with_reducible refine Row.chg ?_ (by with_reducible assumption) (by first | (simp; done) | (simp; omega)))))), World.ownsRow_nil _ _ _ _, Nat.zero_le _⟩⟩

end Go.Proofs.Yteddlahklilncaa.Path
