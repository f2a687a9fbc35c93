/- A path's copy, its segments, where it is, and an empty one. -/
import Derived.Test.YteddlahklilncaaDoorPathW5
import Derived.Maps.AppendAt
import Derived.Lib.SliceRun
namespace Go.Proofs.YteddlahklilncaaDoor.Path
open Go.ChangeShapes Go.WideShapes Go.ChangeAt Go.RowKit
open Go.Proofs.YteddlahklilncaaDoor.FixM (fits)
open Go.Proofs.YteddlahklilncaaDoor.PathM
set_option linter.unusedVariables false
set_option linter.unusedSimpArgs false

theorem clone_calls (v : Value) (l : List Seg) (w : World) (h : Segs w v l) (hlen : l.length ≤ 100000000) :
    Calls Tryd.prog 53 #[v] w fun E w' => ∃ v', E = .returned v' ∧ Segs w' v' l ∧ Up w w' ∧ ∀ g, v'.ownBlock = some g → w.heap.size ≤ g := by
  rcases h.form with ⟨rfl, rfl⟩ | ⟨g, cap, rfl, hn, hm, hg⟩
  · clear h
    have heq := fun w => Lib.run_eql_slice_nil (P := Tryd.prog) w 25 68 none 0 0 0 0 Tryd.underlying25
    go_enter Tryd.func53, Tryd.ntmps53
    go_wp2
    go_ret
    exact ⟨_, rfl, World.ownsRow_nil _ _ _ _, by (repeat' (first | (with_reducible exact Up.refl _) | (with_reducible assumption) | (with_reducible refine Up.alloc ?_ _) | (with_reducible refine Up.drew ?_) | (with_reducible refine Up.drewN ?_ _) | (with_reducible refine Up.setCell ?_ ?_ _) | (with_reducible refine Up.call ?_ (by with_reducible assumption)) | go_size)), fun g hg => by cases hg⟩
  · obtain ⟨i0, hi, hz0, hz1, hz2⟩ := info_parts infoSeg
    have HS := Lib.hid h
    clear h
    have heq := fun w => Lib.run_eql_slice_nil (P := Tryd.prog) w 25 68 (some ⟨g, 0, none⟩) l.length cap 0 0 Tryd.underlying25
    go_enter Tryd.func53, Tryd.ntmps53
    go_wp2_with (at_builtin; refine wpList_append_own_at _ rfl _ _ 25 rfl 0 68 i0 _ 7 56 Tryd.underlying25 hi hz0 hz1 hz2 rfl (by decide) (.slice (some ⟨w.heap.size, 0, none⟩) 0 0) 0 [] rfl (World.ownsRow_made w #[] 0 (Nat.zero_le _) (by decide) rfl) ⟨g, 0, none⟩ l.length cap (segCells l) rfl (segCells_length l) (fun j u hu => by rw [add_plain, Nat.zero_add]; exact ((show Up w _ by (repeat' (first | (with_reducible exact Up.refl _) | (with_reducible assumption) | (with_reducible refine Up.alloc ?_ _) | (with_reducible refine Up.drew ?_) | (with_reducible refine Up.drewN ?_ _) | (with_reducible refine Up.setCell ?_ ?_ _) | (with_reducible refine Up.call ?_ (by with_reducible assumption)) | go_size))).cells.1 g j hg).trans (by have := HS.out.cells (g := g) rfl j u hu; rwa [add_plain, Nat.zero_add] at this)) (segCells_one l) (by unfold maxLen; omega) (by omega) (Nat.zero_le _) ?_; intro v1 w1 hown hgr hnil hat; have HO := Lib.hid hown; have HG := Lib.hid hgr; have HA := Lib.hid hat; clear hown hgr hnil hat)
    go_ret
    refine ⟨v1, rfl, ?_, ?_, ?_⟩
    · have := HO.out
      rw [Nat.zero_add, List.nil_append] at this
      exact this
    · exact grown_up (Up.alloc (Up.refl w) _) HG.out (fun k hk => by simp only [Value.ownBlock, Option.some.injEq] at hk; omega)
    · intro g2 h2
      rcases HA.out with h1 | h1
      · rw [h1] at h2; simp only [Value.ownBlock, Option.some.injEq] at h2; omega
      · rw [h1] at h2; simp at h2; omega

end Go.Proofs.YteddlahklilncaaDoor.Path
