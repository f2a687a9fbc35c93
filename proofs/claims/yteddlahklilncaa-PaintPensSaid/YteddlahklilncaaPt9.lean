/- Law 15's answers, walked. No condition. -/
import Derived.Test.YteddlahklilncaaPt8
namespace Go.Proofs.Yteddlahklilncaa.Pt
open Go.ChangeShapes Go.WideShapes Go.ChangeAt Go.RowKit
open Go.Proofs.Yteddlahklilncaa.FixM (fits)
open Go.Proofs.Yteddlahklilncaa.PathM (Seg sound)
open Go.Proofs.Yteddlahklilncaa.MatM (M6)
set_option linter.unusedVariables false
set_option linter.unusedSimpArgs false

set_option maxRecDepth 8000 in
set_option maxHeartbeats 2000000 in
theorem pages_one (W H n : Int) (c g cap base : Nat) (w : World) (h : Row w c #[.int .i64 W, .int .i64 H, .slice none 0 0, .int .i64 n, .slice (some ⟨g, 0, none⟩) 1 cap]) (ho : w.ownsRow base 59 3 (.slice (some ⟨g, 0, none⟩) 1 cap) 1 #[.int .i64 W, .int .i64 H, .slice none 0 0].toList) :
    Calls Try.prog 20 #[.pointer (some ⟨c, 0, none⟩)] w fun E w' => ∃ g2 cap2, E = .returned (.slice (some ⟨g2, 0, none⟩) 1 cap2) ∧ w'.cell? ⟨g2, 0, none⟩ = some (.int .i64 W) ∧ g2 < w'.heap.size ∧ Up w w' := by
  obtain ⟨i0, hi, hz0, hz1, hz2⟩ := info_parts3 infoPg
  have HR := Lib.hid h
  have q4 : w.cell? ⟨c, 4, none⟩ = some (.slice (some ⟨g, 0, none⟩) 1 cap) := h.cell 4 rfl
  have lc := h.lt
  have hcs := ho.cells (g := g) rfl
  have p0 : w.cell? ⟨g, 0, none⟩ = some (.int .i64 W) := hcs 0 _ rfl
  have p1 : w.cell? ⟨g, 1, none⟩ = some (.int .i64 H) := hcs 1 _ rfl
  have p2 : w.cell? ⟨g, 2, none⟩ = some (.slice none 0 0) := hcs 2 _ rfl
  have lg : g < w.heap.size := cell_lt p0
  have lg1 : g < w.heap.size + 1 := Nat.lt_succ_of_lt lg
  clear h ho hcs
  go_enter Try.func20, Try.ntmps20
  go_wp2
  refine wp_loop_rounds 2 ?_
  rw [rounds_succ]
  go_wp2_with (first
    | (go_at_call 33; ((with_reducible refine (owns_nil _).mono ?_); rintro E w1 ⟨gi, rfl, hu1⟩; have z1 := hu1.size; (try simp at z1); have RB1 : Row w1 w.heap.size #[.int .i64 W, .int .i64 H, .slice none 0 0] := Row.up (show Row _ w.heap.size #[.int .i64 W, .int .i64 H, .slice none 0 0] by (repeat' (first | (with_reducible assumption) | (with_reducible refine Row.at _ _ ?_; (simp; done)) | (with_reducible refine Row.alloc ?_ _) | (with_reducible refine Row.drew ?_) | (with_reducible refine Row.drewN ?_ _) | (with_reducible refine Row.other ?_ (by first | (simp; done) | (simp; omega) | omega) _) | (with_reducible refine Row.up ?_ (by with_reducible assumption)) | (with_reducible refine Row.chg ?_ (by with_reducible assumption) (by first | (simp; done) | (simp; omega)))))) hu1; have lb1 := RB1.lt; have qb0 := RB1.cell 0 rfl; have qb1 := RB1.cell 1 rfl; have qb2 := RB1.cell 2 rfl; have fb2 := RB1.free 2))
    | (at_builtin; go_loud (refine wpList_append_lies _ rfl (.tmp 21) (.tmp 23) 60 rfl 0 59 i0 (.agg #[.int .i64 0, .int .i64 0, .slice none 0 0]) 3 40 Try.underlying60 hi hz0 hz1 hz2 rfl (by decide) (.slice none 0 0) 0 [] rfl (World.ownsRow_nil _ _ _ _) ⟨w1.heap.size, 0, none⟩ 1 1 #[.int .i64 W, .int .i64 H, .slice (some ⟨gi, 0, none⟩) 0 0].toList rfl rfl (news_at (by (repeat' (first | (with_reducible assumption) | (with_reducible refine Row.at _ _ ?_; (simp; done)) | (with_reducible refine Row.alloc ?_ _) | (with_reducible refine Row.drew ?_) | (with_reducible refine Row.drewN ?_ _) | (with_reducible refine Row.other ?_ (by first | (simp; done) | (simp; omega) | omega) _) | (with_reducible refine Row.up ?_ (by with_reducible assumption)) | (with_reducible refine Row.chg ?_ (by with_reducible assumption) (by first | (simp; done) | (simp; omega)))))) rfl) (by simp [Value.oneCell']) (by decide) (by unfold maxLen; omega) (by omega) (Nat.zero_le _) _ rfl ?_; intro g2 cap2 w5 hown5 hgr5 hat5 hg5; have z5 := hgr5.size; (try simp at z5); have u5 : Up w w5 := grown_up (show Up w _ by (repeat' (first | (with_reducible exact Up.refl _) | (with_reducible assumption) | (with_reducible refine Up.alloc ?_ _) | (with_reducible refine Up.drew ?_) | (with_reducible refine Up.drewN ?_ _) | (with_reducible refine Up.setCell ?_ ?_ _) | (with_reducible refine Up.call ?_ (by with_reducible assumption)) | go_size))) hgr5 (fun k hk => by cases hk); have HO5 := Lib.hid hown5; clear hown5 hgr5)))
  rw [rounds_succ]
  go_wp2
  go_ret
  have h5 := HO5.out.cells (g := g2) rfl
  have h50 : w5.cell? ⟨g2, 0, none⟩ = some (.int .i64 W) := h5 0 _ rfl
  exact ⟨g2, cap2, rfl, h50, cell_lt h50, u5⟩

set_option maxRecDepth 8000 in
theorem answers_calls (w : World) : Calls Try.prog 6 #[] w fun E w' => E = .returned (.bool true) ∧ Up w w' := by
  go_enter Try.func6, Try.ntmps6
  go_wp2_with (first
    | (go_at_call 4; ((with_reducible refine (new_calls 40108032 51904512 3 (by decide) (by decide) (by decide) (by decide) _).mono ?_); rintro E w1 ⟨b, rfl, hb, hr1, hu1⟩; have HR1 := Lib.hid hr1; clear hr1))
    | (go_at_call 19; ((with_reducible refine (show_calls 40108032 51904512 3 (by decide) b _ HR1.out).mono ?_); rintro E w2 ⟨rfl, g, cap, hr2, ho2, hc2⟩; have HR2 := Lib.hid hr2; have HO2 := Lib.hid ho2; have U2 : Up w w2 := ((Chg.of_up (S := []) hu1).call hc2 (fun k hk => Or.inr (by simp at hk; omega))).up; clear hr2 ho2 hc2))
    | (go_at_call 20; ((with_reducible refine (pages_one 40108032 51904512 3 b g cap _ _ HR3.out HO3.out).mono ?_); rintro E w4 ⟨g4, cap4, rfl, q4, l4, hu4⟩; have U4 : Up w w4 := Up.call U3 hu4))
    | (go_at_call 20; ((with_reducible refine (pages_one 40108032 51904512 3 b g cap _ _ HR2.out HO2.out).mono ?_); rintro E w3 ⟨g3, cap3, rfl, q3, l3, hu3⟩; have HR3 := Lib.hid (HR2.out.up hu3); have HO3 := Lib.hid (raw_up HO2.out hu3); have U3 : Up w w3 := Up.call U2 hu3)))
  go_ret
  exact ⟨rfl, U4⟩

end Go.Proofs.Yteddlahklilncaa.Pt