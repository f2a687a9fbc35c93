/- Pages of one page that holds one item. No condition but lengths that an append bears. -/
import Derived.Test.YteddlahklilncaaGB
import Derived.Test.YteddlahklilncaaPt9
namespace Go.Proofs.Yteddlahklilncaa.Pt
open Go.ChangeShapes Go.WideShapes Go.ChangeAt Go.RowKit
open Go.Proofs.Yteddlahklilncaa.FixM (fits)
open Go.Proofs.Yteddlahklilncaa.PathM (Seg sound)
open Go.Proofs.Yteddlahklilncaa.MatM (M6)
set_option linter.unusedVariables false
set_option linter.unusedSimpArgs false

theorem One1.up {w w1 : World} {base g cap : Nat} {i : Item} (h : One1 w base g cap i) (hu : Up w w1) : One1 w1 base g cap i := h.chg (Chg.of_up (S := []) hu) (fun _ hb => by cases hb)
theorem One1.low {w : World} {base b0 g cap : Nat} {i : Item} (h : One1 w base g cap i) (hb : b0 ≤ base) : One1 w b0 g cap i := ⟨ownsRow_low h.row hb, h.it, h.ne, fun b hm => ⟨Nat.le_trans hb (h.lo b hm).1, (h.lo b hm).2⟩⟩

set_option maxRecDepth 8000 in
set_option maxHeartbeats 2000000 in
theorem pages_item (W H n : Int) (x : Value) (i : Item) (c gp capp base b0 g cap : Nat) (w : World) (h : Row w c #[.int .i64 W, .int .i64 H, x, .int .i64 n, .slice (some ⟨gp, 0, none⟩) 1 capp]) (ho : w.ownsRow base 59 3 (.slice (some ⟨gp, 0, none⟩) 1 capp) 1 #[.int .i64 W, .int .i64 H, .slice (some ⟨g, 0, none⟩) 1 cap].toList) (hI : One1 w b0 g cap i) (hl : Lens i.dat) :
    Calls Try.prog 20 #[.pointer (some ⟨c, 0, none⟩)] w fun E w' => ∃ g2 cap2, E = .returned (.slice (some ⟨g2, 0, none⟩) 1 cap2) ∧ ∃ gi capi, w'.cell? ⟨g2, 2, none⟩ = some (.slice (some ⟨gi, 0, none⟩) 1 capi) ∧ (∃ j : Item, One1 w' w.heap.size gi capi j ∧ j.dat = i.dat) ∧ g2 < w'.heap.size ∧ Up w w' := by
  obtain ⟨i0, hi, hz0, hz1, hz2⟩ := info_parts3 infoPg
  have HI := Lib.hid hI
  have HL := Lib.hid hl
  have q4 : w.cell? ⟨c, 4, none⟩ = some (.slice (some ⟨gp, 0, none⟩) 1 capp) := h.cell 4 rfl
  have lc := h.lt
  have hcs := ho.cells (g := gp) rfl
  have p0 : w.cell? ⟨gp, 0, none⟩ = some (.int .i64 W) := hcs 0 _ rfl
  have p1 : w.cell? ⟨gp, 1, none⟩ = some (.int .i64 H) := hcs 1 _ rfl
  have p2 : w.cell? ⟨gp, 2, none⟩ = some (.slice (some ⟨g, 0, none⟩) 1 cap) := hcs 2 _ rfl
  have lg : gp < w.heap.size := cell_lt p0
  have lg1 : gp < w.heap.size + 1 := Nat.lt_succ_of_lt lg
  clear h ho hcs hI hl
  go_enter Try.func20, Try.ntmps20
  go_wp2
  refine wp_loop_rounds 2 ?_
  rw [rounds_succ]
  go_wp2_with (first
    | (go_at_call 33; ((with_reducible refine (owns_item i b0 g cap _ (HI.out.up (by (repeat' (first | (with_reducible first | exact Up.refl _ | assumption | refine Up.alloc ?_ _ | refine Up.drew ?_ | refine Up.drewN ?_ _ | refine Up.setCell ?_ ?_ _ | refine Up.call ?_ (by assumption)) | go_size)))) HL.out).mono ?_); rintro E w1 ⟨gi, capi, rfl, j, hj1, hj2, hu1⟩; have z1 := hu1.size; (try simp at z1); have RB1 : Row w1 w.heap.size #[.int .i64 W, .int .i64 H, .slice (some ⟨g, 0, none⟩) 1 cap] := Row.up (show Row _ w.heap.size #[.int .i64 W, .int .i64 H, .slice (some ⟨g, 0, none⟩) 1 cap] by (repeat' (with_reducible first | assumption | (refine Row.at _ _ ?_; (simp; done)) | refine Row.alloc ?_ _ | refine Row.drew ?_ | refine Row.drewN ?_ _ | refine Row.other ?_ (by first | (simp; done) | (simp; omega) | omega) _ | refine Row.up ?_ (by assumption) | refine Row.chg ?_ (by assumption) (by first | (simp; done) | (simp; omega))))) hu1; have lb1 := RB1.lt; have qb0 := RB1.cell 0 rfl; have qb1 := RB1.cell 1 rfl; have qb2 := RB1.cell 2 rfl; have fb2 := RB1.free 2; have HJ := Lib.hid (hj1.low (show w.heap.size + 1 ≤ _ by simp)); have HD := Lib.hid hj2; clear hj1 hj2))
    | (at_builtin; go_loud (refine wpList_append_lies _ rfl (.tmp 21) (.tmp 23) 60 rfl 0 59 i0 (.agg #[.int .i64 0, .int .i64 0, .slice none 0 0]) 3 40 Try.underlying60 hi hz0 hz1 hz2 rfl (by decide) (.slice none 0 0) 0 [] rfl (World.ownsRow_nil _ _ _ _) ⟨w1.heap.size, 0, none⟩ 1 1 #[.int .i64 W, .int .i64 H, .slice (some ⟨gi, 0, none⟩) 1 capi].toList rfl rfl (news_at (by (repeat' (with_reducible first | assumption | (refine Row.at _ _ ?_; (simp; done)) | refine Row.alloc ?_ _ | refine Row.drew ?_ | refine Row.drewN ?_ _ | refine Row.other ?_ (by first | (simp; done) | (simp; omega) | omega) _ | refine Row.up ?_ (by assumption) | refine Row.chg ?_ (by assumption) (by first | (simp; done) | (simp; omega))))) rfl) (by simp [Value.oneCell']) (by decide) (by unfold maxLen; omega) (by omega) (Nat.zero_le _) _ rfl ?_; intro g2 cap2 w5 hown5 hgr5 hat5 hg5; have z5 := hgr5.size; (try simp at z5); have u5 : Up w w5 := grown_up (show Up w _ by (repeat' (first | (with_reducible first | exact Up.refl _ | assumption | refine Up.alloc ?_ _ | refine Up.drew ?_ | refine Up.drewN ?_ _ | refine Up.setCell ?_ ?_ _ | refine Up.call ?_ (by assumption)) | go_size))) hgr5 (fun k hk => by cases hk); have HC5 := Lib.hid (show Chg [w.heap.size] w1 w5 from Chg.grown (show Chg [w.heap.size] w1 _ by (repeat' (first | (with_reducible first | exact Chg.refl _ _ | assumption | refine Chg.alloc ?_ _ | refine Chg.drew ?_ | refine Chg.drewN ?_ _ | refine Chg.setCell ?_ ?_ _ | refine Chg.upc ?_ (by assumption) | refine Chg.call ?_ (by assumption) ?_) | (refine Or.inl ?_; (simp; done)) | (simp; done) | (simp; omega) | omega))) hgr5 (fun k hk => by cases hk)); have HO5 := Lib.hid hown5; clear hown5 hgr5)))
  rw [rounds_succ]
  go_wp2
  go_ret
  have h5 := HO5.out.cells (g := g2) rfl
  have h52 : w5.cell? ⟨g2, 2, none⟩ = some (.slice (some ⟨gi, 0, none⟩) 1 capi) := h5 2 _ rfl
  exact ⟨g2, cap2, rfl, gi, capi, h52, ⟨j, (HJ.out.chg HC5.out (fun b hb => by simp at hb; omega)).low (Nat.le_succ _), HD.out⟩, cell_lt h52, u5⟩

end Go.Proofs.Yteddlahklilncaa.Pt
