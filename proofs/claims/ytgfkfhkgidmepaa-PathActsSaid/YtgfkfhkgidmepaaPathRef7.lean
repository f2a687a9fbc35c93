/- The reference's path: another subpath, wherever one is; Move of package path, wherever one is. -/
import Derived.Test.YtgfkfhkgidmepaaPathRef6
namespace Go.Proofs.Ytgfkfhkgidmepaa.Path
open Go.ChangeShapes Go.WideShapes Go.ChangeAt Go.RowKit
open Go.Proofs.Ytgfkfhkgidmepaa.PathM
set_option linter.unusedVariables false
set_option linter.unusedSimpArgs false

theorem move_calls (b : Nat) (v : Value) (t : St) (x y : Int) (w : World) (h : PathIs w b v t) (hlen : t.l.length + 2 ≤ 100000000) :
    Calls Try.prog 10 #[.pointer (some ⟨b, 0, none⟩), .agg #[.int .i64 x, .int .i64 y]] w fun E w' => E = .returned (.int .i64 (t.move (x, y)).2) ∧ Left w b v (t.move (x, y)).1 w' := by
  by_cases hL : lastK t.l = 1
  · exact move_onto b v t x y w h hL
  · exact move_other b v t x y w h hlen hL

set_option maxRecDepth 8000 in
set_option maxHeartbeats 8000000 in
theorem rmove_empty (b : Nat) (most : Int) (a : Option Addr) (cap : Nat) (x y : Int) (w : World) (h : RefIs w b (.slice a 0 cap) most []) :
    Calls Try.prog 34 #[.pointer (some ⟨b, 0, none⟩), .agg #[.int .i64 x, .int .i64 y]] w fun E w' => E = .returned (.int .i64 (lMove most [] (x, y)).2) ∧ RLeft w b (.slice a 0 cap) most (lMove most [] (x, y)).1 w' := by
  have hlt := h.row.lt
  have q0 : w.cell? ⟨b, 0, none⟩ = some (.int .i64 most) := h.row.cell 0 rfl
  have q1 : w.cell? ⟨b, 1, none⟩ = some (.slice a 0 cap) := h.row.cell 1 rfl
  have HR := Lib.hid h
  obtain ⟨i0, ji, jz0, jz1, jz2⟩ := info_parts infoSeg
  have hb1 : b < w.heap.size + 1 := by omega
  have hb2 : b < w.heap.size + 1 + 1 := by omega
  have hb3 : b < w.heap.size + 1 + 1 + 1 := by omega
  have hb4 : b < w.heap.size + 1 + 1 + 1 + 1 := by omega
  have hb5 : b < w.heap.size + 1 + 1 + 1 + 1 + 1 := by omega
  clear h
  by_cases hf : fitsP (x, y) = true
  · have HF := Lib.hid hf
    by_cases hmost : most < 1
    · have dm : decide (most < 1) = true := decide_eq_true hmost
      have HE := Lib.hid (show lMove most [] (x, y) = ([], 9) by rw [lMove_new hf (by decide), if_pos (by simpa using hmost)])
      clear hf hmost
      go_enter Try.func34, Try.ntmps34
      go_wp2_with (go_at_call 18; ((with_reducible refine (fitsPoint_calls _ _ _).mono ?_); rintro E w1 ⟨rfl, rfl⟩; rw [HF.out]))
      go_ret
      exact ⟨by rw [HE.out]; rfl, by rw [HE.out]; exact RLeft.same (by (repeat' (first | (with_reducible exact Up.refl _) | (with_reducible assumption) | (with_reducible refine Up.alloc ?_ _) | (with_reducible refine Up.drew ?_) | (with_reducible refine Up.drewN ?_ _) | (with_reducible refine Up.setCell ?_ ?_ _) | (with_reducible refine Up.call ?_ (by with_reducible assumption)) | go_size))) HR.out⟩
    · have dm : decide (most < 1) = false := decide_eq_false hmost
      have HE := Lib.hid (show lMove most [] (x, y) = ([⟨1, (x, y), Z, Z⟩], 0) by rw [lMove_new hf (by decide), if_neg (by simpa using hmost)]; rfl)
      clear hf hmost
      rcases a with _ | ad
      · skip
        go_enter Try.func34, Try.ntmps34
        go_wp2_with (go_at_call 18; ((with_reducible refine (fitsPoint_calls _ _ _).mono ?_); rintro E w1 ⟨rfl, rfl⟩; rw [HF.out]))
        go_region_law (first
          | (refine step_append_lies _ rfl (.tmp 60) (.tmp 62) 32 rfl 0 43 i0 _ 7 56 Try.underlying32 ji jz0 jz1 jz2 rfl (by decide) (.slice (some ⟨w.heap.size + 1 + 1 + 1 + 1, 0, none⟩) 0 0) 0 [] rfl (made_any (by first | exact made_at (by simp) | exact raw_up (made_at (by simp)) (Up.drew (Up.refl _)) | exact raw_up (made_at (by simp)) (Up.drew (Up.alloc (Up.refl _) _)) | exact raw_up (made_at (by simp)) (Up.alloc (Up.refl _) _))) _ 1 1 (segCells [⟨1, (x, y), Z, Z⟩]) rfl rfl (news_at (show Row _ _ #[.int .i64 1, .int .i64 x, .int .i64 y, .int .i64 0, .int .i64 0, .int .i64 0, .int .i64 0] by (repeat' (first | (with_reducible assumption) | (with_reducible refine Row.at _ _ ?_; (simp; done)) | (with_reducible refine Row.alloc ?_ _) | (with_reducible refine Row.drew ?_) | (with_reducible refine Row.drewN ?_ _) | (with_reducible refine Row.other ?_ (by first | (simp; done) | (simp; omega) | omega) _) | (with_reducible refine Row.up ?_ (by with_reducible assumption)) | (with_reducible refine Row.chg ?_ (by with_reducible assumption) (by first | (simp; done) | (simp; omega)))))) rfl) (segCells_one _) (by decide) (by decide) (by decide) (Nat.zero_le _) _ rfl ?_; intro g2 c2 w2 hown hgr hat hg1; have HST := Lib.hid (RLeft.stored (l' := [⟨1, (x, y), Z, Z⟩]) HR.out (show Up w _ by (repeat' (first | (with_reducible exact Up.refl _) | (with_reducible assumption) | (with_reducible refine Up.alloc ?_ _) | (with_reducible refine Up.drew ?_) | (with_reducible refine Up.drewN ?_ _) | (with_reducible refine Up.setCell ?_ ?_ _) | (with_reducible refine Up.call ?_ (by with_reducible assumption)) | go_size))) (fun g hg => by simp only [Value.ownBlock, Option.some.injEq] at hg; omega) (Chg.grown (Chg.refl (own (.slice (some ⟨w.heap.size + 1 + 1 + 1 + 1, 0, none⟩) 0 0)) _) hgr (fun k hk => Or.inl (own_mem hk))) hat (Nat.le_refl _) hown (by simp)); have hCw : Chg [] w w2 := (Chg.of_up (show Up w _ by (repeat' (first | (with_reducible exact Up.refl _) | (with_reducible assumption) | (with_reducible refine Up.alloc ?_ _) | (with_reducible refine Up.drew ?_) | (with_reducible refine Up.drewN ?_ _) | (with_reducible refine Up.setCell ?_ ?_ _) | (with_reducible refine Up.call ?_ (by with_reducible assumption)) | go_size)))).call (Chg.grown (Chg.refl (own (.slice (some ⟨w.heap.size + 1 + 1 + 1 + 1, 0, none⟩) 0 0)) _) hgr (fun k hk => Or.inl (own_mem hk))) (fun x hx => Or.inr (by have := own_of hx; simp only [Value.ownBlock, Option.some.injEq] at this; omega)); have hRw := HR.out.row.chg hCw (by simp); have z1 := hRw.cell 1 rfl; have zf := hRw.free 1; clear hown hat hgr hCw hRw)
          | (refine step_append_lies _ rfl (.tmp 60) (.tmp 62) 32 rfl 0 43 i0 _ 7 56 Try.underlying32 ji jz0 jz1 jz2 rfl (by decide) (.slice (some ⟨w.heap.size + 1 + 1 + 1, 0, none⟩) 0 0) 0 [] rfl (made_any (by first | exact made_at (by simp) | exact raw_up (made_at (by simp)) (Up.drew (Up.refl _)) | exact raw_up (made_at (by simp)) (Up.drew (Up.alloc (Up.refl _) _)) | exact raw_up (made_at (by simp)) (Up.alloc (Up.refl _) _))) _ 1 1 (segCells [⟨1, (x, y), Z, Z⟩]) rfl rfl (news_at (show Row _ _ #[.int .i64 1, .int .i64 x, .int .i64 y, .int .i64 0, .int .i64 0, .int .i64 0, .int .i64 0] by (repeat' (first | (with_reducible assumption) | (with_reducible refine Row.at _ _ ?_; (simp; done)) | (with_reducible refine Row.alloc ?_ _) | (with_reducible refine Row.drew ?_) | (with_reducible refine Row.drewN ?_ _) | (with_reducible refine Row.other ?_ (by first | (simp; done) | (simp; omega) | omega) _) | (with_reducible refine Row.up ?_ (by with_reducible assumption)) | (with_reducible refine Row.chg ?_ (by with_reducible assumption) (by first | (simp; done) | (simp; omega)))))) rfl) (segCells_one _) (by decide) (by decide) (by decide) (Nat.zero_le _) _ rfl ?_; intro g2 c2 w2 hown hgr hat hg1; have HST := Lib.hid (RLeft.stored (l' := [⟨1, (x, y), Z, Z⟩]) HR.out (show Up w _ by (repeat' (first | (with_reducible exact Up.refl _) | (with_reducible assumption) | (with_reducible refine Up.alloc ?_ _) | (with_reducible refine Up.drew ?_) | (with_reducible refine Up.drewN ?_ _) | (with_reducible refine Up.setCell ?_ ?_ _) | (with_reducible refine Up.call ?_ (by with_reducible assumption)) | go_size))) (fun g hg => by simp only [Value.ownBlock, Option.some.injEq] at hg; omega) (Chg.grown (Chg.refl (own (.slice (some ⟨w.heap.size + 1 + 1 + 1, 0, none⟩) 0 0)) _) hgr (fun k hk => Or.inl (own_mem hk))) hat (Nat.le_refl _) hown (by simp)); have hCw : Chg [] w w2 := (Chg.of_up (show Up w _ by (repeat' (first | (with_reducible exact Up.refl _) | (with_reducible assumption) | (with_reducible refine Up.alloc ?_ _) | (with_reducible refine Up.drew ?_) | (with_reducible refine Up.drewN ?_ _) | (with_reducible refine Up.setCell ?_ ?_ _) | (with_reducible refine Up.call ?_ (by with_reducible assumption)) | go_size)))).call (Chg.grown (Chg.refl (own (.slice (some ⟨w.heap.size + 1 + 1 + 1, 0, none⟩) 0 0)) _) hgr (fun k hk => Or.inl (own_mem hk))) (fun x hx => Or.inr (by have := own_of hx; simp only [Value.ownBlock, Option.some.injEq] at this; omega)); have hRw := HR.out.row.chg hCw (by simp); have z1 := hRw.cell 1 rfl; have zf := hRw.free 1; clear hown hat hgr hCw hRw))
        all_goals go_wp2
        all_goals
          go_ret
          exact ⟨by rw [HE.out]; rfl, by rw [HE.out]; exact HST.out⟩
      · skip
        go_enter Try.func34, Try.ntmps34
        go_wp2_with (go_at_call 18; ((with_reducible refine (fitsPoint_calls _ _ _).mono ?_); rintro E w1 ⟨rfl, rfl⟩; rw [HF.out]))
        go_region_law (first
          | (refine step_append_lies _ rfl (.tmp 60) (.tmp 62) 32 rfl 0 43 i0 _ 7 56 Try.underlying32 ji jz0 jz1 jz2 rfl (by decide) (.slice (some ⟨w.heap.size + 1 + 1 + 1 + 1, 0, none⟩) 0 0) 0 [] rfl (made_any (by first | exact made_at (by simp) | exact raw_up (made_at (by simp)) (Up.drew (Up.refl _)) | exact raw_up (made_at (by simp)) (Up.drew (Up.alloc (Up.refl _) _)) | exact raw_up (made_at (by simp)) (Up.alloc (Up.refl _) _))) _ 1 1 (segCells [⟨1, (x, y), Z, Z⟩]) rfl rfl (news_at (show Row _ _ #[.int .i64 1, .int .i64 x, .int .i64 y, .int .i64 0, .int .i64 0, .int .i64 0, .int .i64 0] by (repeat' (first | (with_reducible assumption) | (with_reducible refine Row.at _ _ ?_; (simp; done)) | (with_reducible refine Row.alloc ?_ _) | (with_reducible refine Row.drew ?_) | (with_reducible refine Row.drewN ?_ _) | (with_reducible refine Row.other ?_ (by first | (simp; done) | (simp; omega) | omega) _) | (with_reducible refine Row.up ?_ (by with_reducible assumption)) | (with_reducible refine Row.chg ?_ (by with_reducible assumption) (by first | (simp; done) | (simp; omega)))))) rfl) (segCells_one _) (by decide) (by decide) (by decide) (Nat.zero_le _) _ rfl ?_; intro g2 c2 w2 hown hgr hat hg1; have HST := Lib.hid (RLeft.stored (l' := [⟨1, (x, y), Z, Z⟩]) HR.out (show Up w _ by (repeat' (first | (with_reducible exact Up.refl _) | (with_reducible assumption) | (with_reducible refine Up.alloc ?_ _) | (with_reducible refine Up.drew ?_) | (with_reducible refine Up.drewN ?_ _) | (with_reducible refine Up.setCell ?_ ?_ _) | (with_reducible refine Up.call ?_ (by with_reducible assumption)) | go_size))) (fun g hg => by simp only [Value.ownBlock, Option.some.injEq] at hg; omega) (Chg.grown (Chg.refl (own (.slice (some ⟨w.heap.size + 1 + 1 + 1 + 1, 0, none⟩) 0 0)) _) hgr (fun k hk => Or.inl (own_mem hk))) hat (Nat.le_refl _) hown (by simp)); have hCw : Chg [] w w2 := (Chg.of_up (show Up w _ by (repeat' (first | (with_reducible exact Up.refl _) | (with_reducible assumption) | (with_reducible refine Up.alloc ?_ _) | (with_reducible refine Up.drew ?_) | (with_reducible refine Up.drewN ?_ _) | (with_reducible refine Up.setCell ?_ ?_ _) | (with_reducible refine Up.call ?_ (by with_reducible assumption)) | go_size)))).call (Chg.grown (Chg.refl (own (.slice (some ⟨w.heap.size + 1 + 1 + 1 + 1, 0, none⟩) 0 0)) _) hgr (fun k hk => Or.inl (own_mem hk))) (fun x hx => Or.inr (by have := own_of hx; simp only [Value.ownBlock, Option.some.injEq] at this; omega)); have hRw := HR.out.row.chg hCw (by simp); have z1 := hRw.cell 1 rfl; have zf := hRw.free 1; clear hown hat hgr hCw hRw)
          | (refine step_append_lies _ rfl (.tmp 60) (.tmp 62) 32 rfl 0 43 i0 _ 7 56 Try.underlying32 ji jz0 jz1 jz2 rfl (by decide) (.slice (some ⟨w.heap.size + 1 + 1 + 1, 0, none⟩) 0 0) 0 [] rfl (made_any (by first | exact made_at (by simp) | exact raw_up (made_at (by simp)) (Up.drew (Up.refl _)) | exact raw_up (made_at (by simp)) (Up.drew (Up.alloc (Up.refl _) _)) | exact raw_up (made_at (by simp)) (Up.alloc (Up.refl _) _))) _ 1 1 (segCells [⟨1, (x, y), Z, Z⟩]) rfl rfl (news_at (show Row _ _ #[.int .i64 1, .int .i64 x, .int .i64 y, .int .i64 0, .int .i64 0, .int .i64 0, .int .i64 0] by (repeat' (first | (with_reducible assumption) | (with_reducible refine Row.at _ _ ?_; (simp; done)) | (with_reducible refine Row.alloc ?_ _) | (with_reducible refine Row.drew ?_) | (with_reducible refine Row.drewN ?_ _) | (with_reducible refine Row.other ?_ (by first | (simp; done) | (simp; omega) | omega) _) | (with_reducible refine Row.up ?_ (by with_reducible assumption)) | (with_reducible refine Row.chg ?_ (by with_reducible assumption) (by first | (simp; done) | (simp; omega)))))) rfl) (segCells_one _) (by decide) (by decide) (by decide) (Nat.zero_le _) _ rfl ?_; intro g2 c2 w2 hown hgr hat hg1; have HST := Lib.hid (RLeft.stored (l' := [⟨1, (x, y), Z, Z⟩]) HR.out (show Up w _ by (repeat' (first | (with_reducible exact Up.refl _) | (with_reducible assumption) | (with_reducible refine Up.alloc ?_ _) | (with_reducible refine Up.drew ?_) | (with_reducible refine Up.drewN ?_ _) | (with_reducible refine Up.setCell ?_ ?_ _) | (with_reducible refine Up.call ?_ (by with_reducible assumption)) | go_size))) (fun g hg => by simp only [Value.ownBlock, Option.some.injEq] at hg; omega) (Chg.grown (Chg.refl (own (.slice (some ⟨w.heap.size + 1 + 1 + 1, 0, none⟩) 0 0)) _) hgr (fun k hk => Or.inl (own_mem hk))) hat (Nat.le_refl _) hown (by simp)); have hCw : Chg [] w w2 := (Chg.of_up (show Up w _ by (repeat' (first | (with_reducible exact Up.refl _) | (with_reducible assumption) | (with_reducible refine Up.alloc ?_ _) | (with_reducible refine Up.drew ?_) | (with_reducible refine Up.drewN ?_ _) | (with_reducible refine Up.setCell ?_ ?_ _) | (with_reducible refine Up.call ?_ (by with_reducible assumption)) | go_size)))).call (Chg.grown (Chg.refl (own (.slice (some ⟨w.heap.size + 1 + 1 + 1, 0, none⟩) 0 0)) _) hgr (fun k hk => Or.inl (own_mem hk))) (fun x hx => Or.inr (by have := own_of hx; simp only [Value.ownBlock, Option.some.injEq] at this; omega)); have hRw := HR.out.row.chg hCw (by simp); have z1 := hRw.cell 1 rfl; have zf := hRw.free 1; clear hown hat hgr hCw hRw))
        all_goals go_wp2
        all_goals
          go_ret
          exact ⟨by rw [HE.out]; rfl, by rw [HE.out]; exact HST.out⟩
  · have HF := Lib.hid (show fitsP (x, y) = false by simpa using hf)
    have HE := Lib.hid (show lMove most [] (x, y) = ([], 11) by unfold lMove St.move; rw [if_neg hf]; rfl)
    clear hf
    go_enter Try.func34, Try.ntmps34
    go_wp2_with (go_at_call 18; ((with_reducible refine (fitsPoint_calls _ _ _).mono ?_); rintro E w1 ⟨rfl, rfl⟩; rw [HF.out]))
    go_ret
    exact ⟨by rw [HE.out]; rfl, by rw [HE.out]; exact RLeft.same (by (repeat' (first | (with_reducible exact Up.refl _) | (with_reducible assumption) | (with_reducible refine Up.alloc ?_ _) | (with_reducible refine Up.drew ?_) | (with_reducible refine Up.drewN ?_ _) | (with_reducible refine Up.setCell ?_ ?_ _) | (with_reducible refine Up.call ?_ (by with_reducible assumption)) | go_size))) HR.out⟩

theorem rmove_calls (b : Nat) (v : Value) (most : Int) (l : List Seg) (x y : Int) (w : World) (h : RefIs w b v most l) (hlen : l.length ≤ 1000000) :
    Calls Try.prog 34 #[.pointer (some ⟨b, 0, none⟩), .agg #[.int .i64 x, .int .i64 y]] w fun E w' => E = .returned (.int .i64 (lMove most l (x, y)).2) ∧ RLeft w b v most (lMove most l (x, y)).1 w' := by
  by_cases h0 : l = []
  · subst h0
    obtain ⟨a, cap, rfl⟩ := Segs.val h.segs
    exact rmove_empty b most a cap x y w h
  · rcases h.segs.form with ⟨rfl, rfl⟩ | ⟨g, cap, rfl, _⟩
    · exact absurd rfl h0
    · have := List.length_pos_iff.2 h0
      exact rmove_full b most g cap (l.length - 1) l x y w h (by omega) (by omega)

end Go.Proofs.Ytgfkfhkgidmepaa.Path
