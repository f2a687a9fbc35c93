/- The reference's Side, SamePen with no pen, soundPen, walked. No condition. -/
import Derived.Test.YteddlahklilncaaDoorPt3
import Derived.Test.YteddlahklilncaaDoorPathR
namespace Go.Proofs.YteddlahklilncaaDoor.Pt
open Go.ChangeShapes Go.WideShapes Go.ChangeAt Go.RowKit
open Go.Proofs.YteddlahklilncaaDoor.FixM (fits)
open Go.Proofs.YteddlahklilncaaDoor.PathM (Seg sound)
open Go.Proofs.YteddlahklilncaaDoor.MatM (M6)
set_option linter.unusedVariables false
set_option linter.unusedSimpArgs false

theorem rside_calls (n : Int) (w : World) : Calls Tryd.prog 22 #[.int .i64 n] w fun E w' => E = .returned (.bool (sideR n)) ∧ Up w w' := by
  obtain ⟨b_h1, h1⟩ : ∃ b, (decide (65536 ≤ n)) = b := ⟨_, rfl⟩
  cases b_h1
  · go_enter Tryd.func22, Tryd.ntmps22
    go_wp2
    go_ret
    exact ⟨by simp [sideR, h1], by (repeat' (first | (with_reducible exact Up.refl _) | (with_reducible assumption) | (with_reducible refine Up.alloc ?_ _) | (with_reducible refine Up.drew ?_) | (with_reducible refine Up.drewN ?_ _) | (with_reducible refine Up.setCell ?_ ?_ _) | (with_reducible refine Up.call ?_ (by with_reducible assumption)) | go_size))⟩
  obtain ⟨b_h2, h2⟩ : ∃ b, (decide (n ≤ 943718400)) = b := ⟨_, rfl⟩
  cases b_h2
  · go_enter Tryd.func22, Tryd.ntmps22
    go_wp2
    go_ret
    exact ⟨by simp [sideR, h1, h2], by (repeat' (first | (with_reducible exact Up.refl _) | (with_reducible assumption) | (with_reducible refine Up.alloc ?_ _) | (with_reducible refine Up.drew ?_) | (with_reducible refine Up.drewN ?_ _) | (with_reducible refine Up.setCell ?_ ?_ _) | (with_reducible refine Up.call ?_ (by with_reducible assumption)) | go_size))⟩
  obtain ⟨b_h3, h3⟩ : ∃ b, (n.tmod 65536 == 0) = b := ⟨_, rfl⟩
  cases b_h3
  · go_enter Tryd.func22, Tryd.ntmps22
    go_wp2
    go_ret
    exact ⟨by simp [sideR, h1, h2, h3], by (repeat' (first | (with_reducible exact Up.refl _) | (with_reducible assumption) | (with_reducible refine Up.alloc ?_ _) | (with_reducible refine Up.drew ?_) | (with_reducible refine Up.drewN ?_ _) | (with_reducible refine Up.setCell ?_ ?_ _) | (with_reducible refine Up.call ?_ (by with_reducible assumption)) | go_size))⟩
  go_enter Tryd.func22, Tryd.ntmps22
  go_wp2
  go_ret
  exact ⟨by simp [sideR, h1, h2, h3], by (repeat' (first | (with_reducible exact Up.refl _) | (with_reducible assumption) | (with_reducible refine Up.alloc ?_ _) | (with_reducible refine Up.drew ?_) | (with_reducible refine Up.drewN ?_ _) | (with_reducible refine Up.setCell ?_ ?_ _) | (with_reducible refine Up.call ?_ (by with_reducible assumption)) | go_size))⟩

theorem rints_nil (da : Option Addr) (dl dc : Nat) (w : World) : Calls Tryd.prog 40 #[.slice da dl dc, .slice none 0 0] w fun E w' => E = .returned (.bool ((dl : Int) == 0)) ∧ Up w w' := by
  by_cases h : dl = 0
  · subst h
    go_enter Tryd.func40, Tryd.ntmps40
    go_wp2
    refine wp_loop_rounds 1 ?_
    rw [rounds_succ]
    go_wp2
    go_ret
    exact ⟨rfl, by (repeat' (first | (with_reducible exact Up.refl _) | (with_reducible assumption) | (with_reducible refine Up.alloc ?_ _) | (with_reducible refine Up.drew ?_) | (with_reducible refine Up.drewN ?_ _) | (with_reducible refine Up.setCell ?_ ?_ _) | (with_reducible refine Up.call ?_ (by with_reducible assumption)) | go_size))⟩
  · obtain ⟨m, rfl⟩ : ∃ m, dl = m + 1 := ⟨dl - 1, by omega⟩
    have H := Lib.hid (show (((m + 1 : Nat) : Int) == 0) = false by simp; omega)
    have h2 : ((((m + 1 : Nat) : Int)) != 0) = true := by simp; omega
    have h3 : (((m : Int) + 1) != 0) = true := by simp; omega
    go_enter Tryd.func40, Tryd.ntmps40
    go_wp2
    go_ret
    exact ⟨by rw [H.out]; rfl, by (repeat' (first | (with_reducible exact Up.refl _) | (with_reducible assumption) | (with_reducible refine Up.alloc ?_ _) | (with_reducible refine Up.drew ?_) | (with_reducible refine Up.drewN ?_ _) | (with_reducible refine Up.setCell ?_ ?_ _) | (with_reducible refine Up.call ?_ (by with_reducible assumption)) | go_size))⟩

set_option maxRecDepth 8000 in
set_option maxHeartbeats 2000000 in
theorem samePen_calls (wd cp jn mt ph : Int) (da : Option Addr) (dl dc : Nat) (w : World) : Calls Tryd.prog 24 #[.agg #[.int .i64 wd, .int .i64 cp, .int .i64 jn, .int .i64 mt, .slice da dl dc, .int .i64 ph], .agg #[.int .i64 0, .int .i64 0, .int .i64 0, .int .i64 0, .slice none 0 0, .int .i64 0]] w fun E w' => E = .returned (.bool (noneR wd cp jn mt dl ph)) ∧ Up w w' := by
  obtain ⟨b_h1, h1⟩ : ∃ b, (wd == 0) = b := ⟨_, rfl⟩
  cases b_h1
  · go_enter Tryd.func24, Tryd.ntmps24
    go_wp2_with (go_at_call 40; ((with_reducible refine (rints_nil da dl dc _).mono ?_); rintro E w1 ⟨rfl, hu1⟩; have z1 := hu1.size; (try simp at z1); have RA : Row w1 (w.heap.size) #[.int .i64 wd, .int .i64 cp, .int .i64 jn, .int .i64 mt, .slice da dl dc, .int .i64 ph] := Row.up (show Row _ (w.heap.size) #[.int .i64 wd, .int .i64 cp, .int .i64 jn, .int .i64 mt, .slice da dl dc, .int .i64 ph] by (repeat' (first | (with_reducible assumption) | (with_reducible refine Row.at _ _ ?_; (simp; done)) | (with_reducible refine Row.alloc ?_ _) | (with_reducible refine Row.drew ?_) | (with_reducible refine Row.drewN ?_ _) | (with_reducible refine Row.other ?_ (by first | (simp; done) | (simp; omega) | omega) _) | (with_reducible refine Row.up ?_ (by with_reducible assumption)) | (with_reducible refine Row.chg ?_ (by with_reducible assumption) (by first | (simp; done) | (simp; omega)))))) hu1; have lA := RA.lt; have qA_0 : w1.cell? ⟨w.heap.size, 0, none⟩ = some (.int .i64 wd) := RA.cell 0 rfl; have qA_1 : w1.cell? ⟨w.heap.size, 1, none⟩ = some (.int .i64 cp) := RA.cell 1 rfl; have qA_2 : w1.cell? ⟨w.heap.size, 2, none⟩ = some (.int .i64 jn) := RA.cell 2 rfl; have qA_3 : w1.cell? ⟨w.heap.size, 3, none⟩ = some (.int .i64 mt) := RA.cell 3 rfl; have qA_4 : w1.cell? ⟨w.heap.size, 4, none⟩ = some (.slice da dl dc) := RA.cell 4 rfl; have qA_5 : w1.cell? ⟨w.heap.size, 5, none⟩ = some (.int .i64 ph) := RA.cell 5 rfl; have RB : Row w1 (w.heap.size + 1) #[.int .i64 0, .int .i64 0, .int .i64 0, .int .i64 0, .slice none 0 0, .int .i64 0] := Row.up (show Row _ (w.heap.size + 1) #[.int .i64 0, .int .i64 0, .int .i64 0, .int .i64 0, .slice none 0 0, .int .i64 0] by (repeat' (first | (with_reducible assumption) | (with_reducible refine Row.at _ _ ?_; (simp; done)) | (with_reducible refine Row.alloc ?_ _) | (with_reducible refine Row.drew ?_) | (with_reducible refine Row.drewN ?_ _) | (with_reducible refine Row.other ?_ (by first | (simp; done) | (simp; omega) | omega) _) | (with_reducible refine Row.up ?_ (by with_reducible assumption)) | (with_reducible refine Row.chg ?_ (by with_reducible assumption) (by first | (simp; done) | (simp; omega)))))) hu1; have lB := RB.lt; have qB_0 : w1.cell? ⟨w.heap.size + 1, 0, none⟩ = some (.int .i64 0) := RB.cell 0 rfl; have qB_1 : w1.cell? ⟨w.heap.size + 1, 1, none⟩ = some (.int .i64 0) := RB.cell 1 rfl; have qB_2 : w1.cell? ⟨w.heap.size + 1, 2, none⟩ = some (.int .i64 0) := RB.cell 2 rfl; have qB_3 : w1.cell? ⟨w.heap.size + 1, 3, none⟩ = some (.int .i64 0) := RB.cell 3 rfl; have qB_4 : w1.cell? ⟨w.heap.size + 1, 4, none⟩ = some (.slice none 0 0) := RB.cell 4 rfl; have qB_5 : w1.cell? ⟨w.heap.size + 1, 5, none⟩ = some (.int .i64 0) := RB.cell 5 rfl))
    go_ret
    exact ⟨by simp [noneR, h1], by (repeat' (first | (with_reducible exact Up.refl _) | (with_reducible assumption) | (with_reducible refine Up.alloc ?_ _) | (with_reducible refine Up.drew ?_) | (with_reducible refine Up.drewN ?_ _) | (with_reducible refine Up.setCell ?_ ?_ _) | (with_reducible refine Up.call ?_ (by with_reducible assumption)) | go_size))⟩
  obtain ⟨b_h2, h2⟩ : ∃ b, (cp == 0) = b := ⟨_, rfl⟩
  cases b_h2
  · go_enter Tryd.func24, Tryd.ntmps24
    go_wp2_with (go_at_call 40; ((with_reducible refine (rints_nil da dl dc _).mono ?_); rintro E w1 ⟨rfl, hu1⟩; have z1 := hu1.size; (try simp at z1); have RA : Row w1 (w.heap.size) #[.int .i64 wd, .int .i64 cp, .int .i64 jn, .int .i64 mt, .slice da dl dc, .int .i64 ph] := Row.up (show Row _ (w.heap.size) #[.int .i64 wd, .int .i64 cp, .int .i64 jn, .int .i64 mt, .slice da dl dc, .int .i64 ph] by (repeat' (first | (with_reducible assumption) | (with_reducible refine Row.at _ _ ?_; (simp; done)) | (with_reducible refine Row.alloc ?_ _) | (with_reducible refine Row.drew ?_) | (with_reducible refine Row.drewN ?_ _) | (with_reducible refine Row.other ?_ (by first | (simp; done) | (simp; omega) | omega) _) | (with_reducible refine Row.up ?_ (by with_reducible assumption)) | (with_reducible refine Row.chg ?_ (by with_reducible assumption) (by first | (simp; done) | (simp; omega)))))) hu1; have lA := RA.lt; have qA_0 : w1.cell? ⟨w.heap.size, 0, none⟩ = some (.int .i64 wd) := RA.cell 0 rfl; have qA_1 : w1.cell? ⟨w.heap.size, 1, none⟩ = some (.int .i64 cp) := RA.cell 1 rfl; have qA_2 : w1.cell? ⟨w.heap.size, 2, none⟩ = some (.int .i64 jn) := RA.cell 2 rfl; have qA_3 : w1.cell? ⟨w.heap.size, 3, none⟩ = some (.int .i64 mt) := RA.cell 3 rfl; have qA_4 : w1.cell? ⟨w.heap.size, 4, none⟩ = some (.slice da dl dc) := RA.cell 4 rfl; have qA_5 : w1.cell? ⟨w.heap.size, 5, none⟩ = some (.int .i64 ph) := RA.cell 5 rfl; have RB : Row w1 (w.heap.size + 1) #[.int .i64 0, .int .i64 0, .int .i64 0, .int .i64 0, .slice none 0 0, .int .i64 0] := Row.up (show Row _ (w.heap.size + 1) #[.int .i64 0, .int .i64 0, .int .i64 0, .int .i64 0, .slice none 0 0, .int .i64 0] by (repeat' (first | (with_reducible assumption) | (with_reducible refine Row.at _ _ ?_; (simp; done)) | (with_reducible refine Row.alloc ?_ _) | (with_reducible refine Row.drew ?_) | (with_reducible refine Row.drewN ?_ _) | (with_reducible refine Row.other ?_ (by first | (simp; done) | (simp; omega) | omega) _) | (with_reducible refine Row.up ?_ (by with_reducible assumption)) | (with_reducible refine Row.chg ?_ (by with_reducible assumption) (by first | (simp; done) | (simp; omega)))))) hu1; have lB := RB.lt; have qB_0 : w1.cell? ⟨w.heap.size + 1, 0, none⟩ = some (.int .i64 0) := RB.cell 0 rfl; have qB_1 : w1.cell? ⟨w.heap.size + 1, 1, none⟩ = some (.int .i64 0) := RB.cell 1 rfl; have qB_2 : w1.cell? ⟨w.heap.size + 1, 2, none⟩ = some (.int .i64 0) := RB.cell 2 rfl; have qB_3 : w1.cell? ⟨w.heap.size + 1, 3, none⟩ = some (.int .i64 0) := RB.cell 3 rfl; have qB_4 : w1.cell? ⟨w.heap.size + 1, 4, none⟩ = some (.slice none 0 0) := RB.cell 4 rfl; have qB_5 : w1.cell? ⟨w.heap.size + 1, 5, none⟩ = some (.int .i64 0) := RB.cell 5 rfl))
    go_ret
    exact ⟨by simp [noneR, h1, h2], by (repeat' (first | (with_reducible exact Up.refl _) | (with_reducible assumption) | (with_reducible refine Up.alloc ?_ _) | (with_reducible refine Up.drew ?_) | (with_reducible refine Up.drewN ?_ _) | (with_reducible refine Up.setCell ?_ ?_ _) | (with_reducible refine Up.call ?_ (by with_reducible assumption)) | go_size))⟩
  obtain ⟨b_h3, h3⟩ : ∃ b, (jn == 0) = b := ⟨_, rfl⟩
  cases b_h3
  · go_enter Tryd.func24, Tryd.ntmps24
    go_wp2_with (go_at_call 40; ((with_reducible refine (rints_nil da dl dc _).mono ?_); rintro E w1 ⟨rfl, hu1⟩; have z1 := hu1.size; (try simp at z1); have RA : Row w1 (w.heap.size) #[.int .i64 wd, .int .i64 cp, .int .i64 jn, .int .i64 mt, .slice da dl dc, .int .i64 ph] := Row.up (show Row _ (w.heap.size) #[.int .i64 wd, .int .i64 cp, .int .i64 jn, .int .i64 mt, .slice da dl dc, .int .i64 ph] by (repeat' (first | (with_reducible assumption) | (with_reducible refine Row.at _ _ ?_; (simp; done)) | (with_reducible refine Row.alloc ?_ _) | (with_reducible refine Row.drew ?_) | (with_reducible refine Row.drewN ?_ _) | (with_reducible refine Row.other ?_ (by first | (simp; done) | (simp; omega) | omega) _) | (with_reducible refine Row.up ?_ (by with_reducible assumption)) | (with_reducible refine Row.chg ?_ (by with_reducible assumption) (by first | (simp; done) | (simp; omega)))))) hu1; have lA := RA.lt; have qA_0 : w1.cell? ⟨w.heap.size, 0, none⟩ = some (.int .i64 wd) := RA.cell 0 rfl; have qA_1 : w1.cell? ⟨w.heap.size, 1, none⟩ = some (.int .i64 cp) := RA.cell 1 rfl; have qA_2 : w1.cell? ⟨w.heap.size, 2, none⟩ = some (.int .i64 jn) := RA.cell 2 rfl; have qA_3 : w1.cell? ⟨w.heap.size, 3, none⟩ = some (.int .i64 mt) := RA.cell 3 rfl; have qA_4 : w1.cell? ⟨w.heap.size, 4, none⟩ = some (.slice da dl dc) := RA.cell 4 rfl; have qA_5 : w1.cell? ⟨w.heap.size, 5, none⟩ = some (.int .i64 ph) := RA.cell 5 rfl; have RB : Row w1 (w.heap.size + 1) #[.int .i64 0, .int .i64 0, .int .i64 0, .int .i64 0, .slice none 0 0, .int .i64 0] := Row.up (show Row _ (w.heap.size + 1) #[.int .i64 0, .int .i64 0, .int .i64 0, .int .i64 0, .slice none 0 0, .int .i64 0] by (repeat' (first | (with_reducible assumption) | (with_reducible refine Row.at _ _ ?_; (simp; done)) | (with_reducible refine Row.alloc ?_ _) | (with_reducible refine Row.drew ?_) | (with_reducible refine Row.drewN ?_ _) | (with_reducible refine Row.other ?_ (by first | (simp; done) | (simp; omega) | omega) _) | (with_reducible refine Row.up ?_ (by with_reducible assumption)) | (with_reducible refine Row.chg ?_ (by with_reducible assumption) (by first | (simp; done) | (simp; omega)))))) hu1; have lB := RB.lt; have qB_0 : w1.cell? ⟨w.heap.size + 1, 0, none⟩ = some (.int .i64 0) := RB.cell 0 rfl; have qB_1 : w1.cell? ⟨w.heap.size + 1, 1, none⟩ = some (.int .i64 0) := RB.cell 1 rfl; have qB_2 : w1.cell? ⟨w.heap.size + 1, 2, none⟩ = some (.int .i64 0) := RB.cell 2 rfl; have qB_3 : w1.cell? ⟨w.heap.size + 1, 3, none⟩ = some (.int .i64 0) := RB.cell 3 rfl; have qB_4 : w1.cell? ⟨w.heap.size + 1, 4, none⟩ = some (.slice none 0 0) := RB.cell 4 rfl; have qB_5 : w1.cell? ⟨w.heap.size + 1, 5, none⟩ = some (.int .i64 0) := RB.cell 5 rfl))
    go_ret
    exact ⟨by simp [noneR, h1, h2, h3], by (repeat' (first | (with_reducible exact Up.refl _) | (with_reducible assumption) | (with_reducible refine Up.alloc ?_ _) | (with_reducible refine Up.drew ?_) | (with_reducible refine Up.drewN ?_ _) | (with_reducible refine Up.setCell ?_ ?_ _) | (with_reducible refine Up.call ?_ (by with_reducible assumption)) | go_size))⟩
  obtain ⟨b_h4, h4⟩ : ∃ b, (mt == 0) = b := ⟨_, rfl⟩
  cases b_h4
  · go_enter Tryd.func24, Tryd.ntmps24
    go_wp2_with (go_at_call 40; ((with_reducible refine (rints_nil da dl dc _).mono ?_); rintro E w1 ⟨rfl, hu1⟩; have z1 := hu1.size; (try simp at z1); have RA : Row w1 (w.heap.size) #[.int .i64 wd, .int .i64 cp, .int .i64 jn, .int .i64 mt, .slice da dl dc, .int .i64 ph] := Row.up (show Row _ (w.heap.size) #[.int .i64 wd, .int .i64 cp, .int .i64 jn, .int .i64 mt, .slice da dl dc, .int .i64 ph] by (repeat' (first | (with_reducible assumption) | (with_reducible refine Row.at _ _ ?_; (simp; done)) | (with_reducible refine Row.alloc ?_ _) | (with_reducible refine Row.drew ?_) | (with_reducible refine Row.drewN ?_ _) | (with_reducible refine Row.other ?_ (by first | (simp; done) | (simp; omega) | omega) _) | (with_reducible refine Row.up ?_ (by with_reducible assumption)) | (with_reducible refine Row.chg ?_ (by with_reducible assumption) (by first | (simp; done) | (simp; omega)))))) hu1; have lA := RA.lt; have qA_0 : w1.cell? ⟨w.heap.size, 0, none⟩ = some (.int .i64 wd) := RA.cell 0 rfl; have qA_1 : w1.cell? ⟨w.heap.size, 1, none⟩ = some (.int .i64 cp) := RA.cell 1 rfl; have qA_2 : w1.cell? ⟨w.heap.size, 2, none⟩ = some (.int .i64 jn) := RA.cell 2 rfl; have qA_3 : w1.cell? ⟨w.heap.size, 3, none⟩ = some (.int .i64 mt) := RA.cell 3 rfl; have qA_4 : w1.cell? ⟨w.heap.size, 4, none⟩ = some (.slice da dl dc) := RA.cell 4 rfl; have qA_5 : w1.cell? ⟨w.heap.size, 5, none⟩ = some (.int .i64 ph) := RA.cell 5 rfl; have RB : Row w1 (w.heap.size + 1) #[.int .i64 0, .int .i64 0, .int .i64 0, .int .i64 0, .slice none 0 0, .int .i64 0] := Row.up (show Row _ (w.heap.size + 1) #[.int .i64 0, .int .i64 0, .int .i64 0, .int .i64 0, .slice none 0 0, .int .i64 0] by (repeat' (first | (with_reducible assumption) | (with_reducible refine Row.at _ _ ?_; (simp; done)) | (with_reducible refine Row.alloc ?_ _) | (with_reducible refine Row.drew ?_) | (with_reducible refine Row.drewN ?_ _) | (with_reducible refine Row.other ?_ (by first | (simp; done) | (simp; omega) | omega) _) | (with_reducible refine Row.up ?_ (by with_reducible assumption)) | (with_reducible refine Row.chg ?_ (by with_reducible assumption) (by first | (simp; done) | (simp; omega)))))) hu1; have lB := RB.lt; have qB_0 : w1.cell? ⟨w.heap.size + 1, 0, none⟩ = some (.int .i64 0) := RB.cell 0 rfl; have qB_1 : w1.cell? ⟨w.heap.size + 1, 1, none⟩ = some (.int .i64 0) := RB.cell 1 rfl; have qB_2 : w1.cell? ⟨w.heap.size + 1, 2, none⟩ = some (.int .i64 0) := RB.cell 2 rfl; have qB_3 : w1.cell? ⟨w.heap.size + 1, 3, none⟩ = some (.int .i64 0) := RB.cell 3 rfl; have qB_4 : w1.cell? ⟨w.heap.size + 1, 4, none⟩ = some (.slice none 0 0) := RB.cell 4 rfl; have qB_5 : w1.cell? ⟨w.heap.size + 1, 5, none⟩ = some (.int .i64 0) := RB.cell 5 rfl))
    go_ret
    exact ⟨by simp [noneR, h1, h2, h3, h4], by (repeat' (first | (with_reducible exact Up.refl _) | (with_reducible assumption) | (with_reducible refine Up.alloc ?_ _) | (with_reducible refine Up.drew ?_) | (with_reducible refine Up.drewN ?_ _) | (with_reducible refine Up.setCell ?_ ?_ _) | (with_reducible refine Up.call ?_ (by with_reducible assumption)) | go_size))⟩
  obtain ⟨b_h5, h5⟩ : ∃ b, ((dl : Int) == 0) = b := ⟨_, rfl⟩
  cases b_h5
  · go_enter Tryd.func24, Tryd.ntmps24
    go_wp2_with (go_at_call 40; ((with_reducible refine (rints_nil da dl dc _).mono ?_); rintro E w1 ⟨rfl, hu1⟩; have z1 := hu1.size; (try simp at z1); have RA : Row w1 (w.heap.size) #[.int .i64 wd, .int .i64 cp, .int .i64 jn, .int .i64 mt, .slice da dl dc, .int .i64 ph] := Row.up (show Row _ (w.heap.size) #[.int .i64 wd, .int .i64 cp, .int .i64 jn, .int .i64 mt, .slice da dl dc, .int .i64 ph] by (repeat' (first | (with_reducible assumption) | (with_reducible refine Row.at _ _ ?_; (simp; done)) | (with_reducible refine Row.alloc ?_ _) | (with_reducible refine Row.drew ?_) | (with_reducible refine Row.drewN ?_ _) | (with_reducible refine Row.other ?_ (by first | (simp; done) | (simp; omega) | omega) _) | (with_reducible refine Row.up ?_ (by with_reducible assumption)) | (with_reducible refine Row.chg ?_ (by with_reducible assumption) (by first | (simp; done) | (simp; omega)))))) hu1; have lA := RA.lt; have qA_0 : w1.cell? ⟨w.heap.size, 0, none⟩ = some (.int .i64 wd) := RA.cell 0 rfl; have qA_1 : w1.cell? ⟨w.heap.size, 1, none⟩ = some (.int .i64 cp) := RA.cell 1 rfl; have qA_2 : w1.cell? ⟨w.heap.size, 2, none⟩ = some (.int .i64 jn) := RA.cell 2 rfl; have qA_3 : w1.cell? ⟨w.heap.size, 3, none⟩ = some (.int .i64 mt) := RA.cell 3 rfl; have qA_4 : w1.cell? ⟨w.heap.size, 4, none⟩ = some (.slice da dl dc) := RA.cell 4 rfl; have qA_5 : w1.cell? ⟨w.heap.size, 5, none⟩ = some (.int .i64 ph) := RA.cell 5 rfl; have RB : Row w1 (w.heap.size + 1) #[.int .i64 0, .int .i64 0, .int .i64 0, .int .i64 0, .slice none 0 0, .int .i64 0] := Row.up (show Row _ (w.heap.size + 1) #[.int .i64 0, .int .i64 0, .int .i64 0, .int .i64 0, .slice none 0 0, .int .i64 0] by (repeat' (first | (with_reducible assumption) | (with_reducible refine Row.at _ _ ?_; (simp; done)) | (with_reducible refine Row.alloc ?_ _) | (with_reducible refine Row.drew ?_) | (with_reducible refine Row.drewN ?_ _) | (with_reducible refine Row.other ?_ (by first | (simp; done) | (simp; omega) | omega) _) | (with_reducible refine Row.up ?_ (by with_reducible assumption)) | (with_reducible refine Row.chg ?_ (by with_reducible assumption) (by first | (simp; done) | (simp; omega)))))) hu1; have lB := RB.lt; have qB_0 : w1.cell? ⟨w.heap.size + 1, 0, none⟩ = some (.int .i64 0) := RB.cell 0 rfl; have qB_1 : w1.cell? ⟨w.heap.size + 1, 1, none⟩ = some (.int .i64 0) := RB.cell 1 rfl; have qB_2 : w1.cell? ⟨w.heap.size + 1, 2, none⟩ = some (.int .i64 0) := RB.cell 2 rfl; have qB_3 : w1.cell? ⟨w.heap.size + 1, 3, none⟩ = some (.int .i64 0) := RB.cell 3 rfl; have qB_4 : w1.cell? ⟨w.heap.size + 1, 4, none⟩ = some (.slice none 0 0) := RB.cell 4 rfl; have qB_5 : w1.cell? ⟨w.heap.size + 1, 5, none⟩ = some (.int .i64 0) := RB.cell 5 rfl))
    go_ret
    exact ⟨by simp [noneR, h1, h2, h3, h4, h5], by (repeat' (first | (with_reducible exact Up.refl _) | (with_reducible assumption) | (with_reducible refine Up.alloc ?_ _) | (with_reducible refine Up.drew ?_) | (with_reducible refine Up.drewN ?_ _) | (with_reducible refine Up.setCell ?_ ?_ _) | (with_reducible refine Up.call ?_ (by with_reducible assumption)) | go_size))⟩
  obtain ⟨b_h6, h6⟩ : ∃ b, (ph == 0) = b := ⟨_, rfl⟩
  cases b_h6
  · go_enter Tryd.func24, Tryd.ntmps24
    go_wp2_with (go_at_call 40; ((with_reducible refine (rints_nil da dl dc _).mono ?_); rintro E w1 ⟨rfl, hu1⟩; have z1 := hu1.size; (try simp at z1); have RA : Row w1 (w.heap.size) #[.int .i64 wd, .int .i64 cp, .int .i64 jn, .int .i64 mt, .slice da dl dc, .int .i64 ph] := Row.up (show Row _ (w.heap.size) #[.int .i64 wd, .int .i64 cp, .int .i64 jn, .int .i64 mt, .slice da dl dc, .int .i64 ph] by (repeat' (first | (with_reducible assumption) | (with_reducible refine Row.at _ _ ?_; (simp; done)) | (with_reducible refine Row.alloc ?_ _) | (with_reducible refine Row.drew ?_) | (with_reducible refine Row.drewN ?_ _) | (with_reducible refine Row.other ?_ (by first | (simp; done) | (simp; omega) | omega) _) | (with_reducible refine Row.up ?_ (by with_reducible assumption)) | (with_reducible refine Row.chg ?_ (by with_reducible assumption) (by first | (simp; done) | (simp; omega)))))) hu1; have lA := RA.lt; have qA_0 : w1.cell? ⟨w.heap.size, 0, none⟩ = some (.int .i64 wd) := RA.cell 0 rfl; have qA_1 : w1.cell? ⟨w.heap.size, 1, none⟩ = some (.int .i64 cp) := RA.cell 1 rfl; have qA_2 : w1.cell? ⟨w.heap.size, 2, none⟩ = some (.int .i64 jn) := RA.cell 2 rfl; have qA_3 : w1.cell? ⟨w.heap.size, 3, none⟩ = some (.int .i64 mt) := RA.cell 3 rfl; have qA_4 : w1.cell? ⟨w.heap.size, 4, none⟩ = some (.slice da dl dc) := RA.cell 4 rfl; have qA_5 : w1.cell? ⟨w.heap.size, 5, none⟩ = some (.int .i64 ph) := RA.cell 5 rfl; have RB : Row w1 (w.heap.size + 1) #[.int .i64 0, .int .i64 0, .int .i64 0, .int .i64 0, .slice none 0 0, .int .i64 0] := Row.up (show Row _ (w.heap.size + 1) #[.int .i64 0, .int .i64 0, .int .i64 0, .int .i64 0, .slice none 0 0, .int .i64 0] by (repeat' (first | (with_reducible assumption) | (with_reducible refine Row.at _ _ ?_; (simp; done)) | (with_reducible refine Row.alloc ?_ _) | (with_reducible refine Row.drew ?_) | (with_reducible refine Row.drewN ?_ _) | (with_reducible refine Row.other ?_ (by first | (simp; done) | (simp; omega) | omega) _) | (with_reducible refine Row.up ?_ (by with_reducible assumption)) | (with_reducible refine Row.chg ?_ (by with_reducible assumption) (by first | (simp; done) | (simp; omega)))))) hu1; have lB := RB.lt; have qB_0 : w1.cell? ⟨w.heap.size + 1, 0, none⟩ = some (.int .i64 0) := RB.cell 0 rfl; have qB_1 : w1.cell? ⟨w.heap.size + 1, 1, none⟩ = some (.int .i64 0) := RB.cell 1 rfl; have qB_2 : w1.cell? ⟨w.heap.size + 1, 2, none⟩ = some (.int .i64 0) := RB.cell 2 rfl; have qB_3 : w1.cell? ⟨w.heap.size + 1, 3, none⟩ = some (.int .i64 0) := RB.cell 3 rfl; have qB_4 : w1.cell? ⟨w.heap.size + 1, 4, none⟩ = some (.slice none 0 0) := RB.cell 4 rfl; have qB_5 : w1.cell? ⟨w.heap.size + 1, 5, none⟩ = some (.int .i64 0) := RB.cell 5 rfl))
    go_ret
    exact ⟨by simp [noneR, h1, h2, h3, h4, h5, h6], by (repeat' (first | (with_reducible exact Up.refl _) | (with_reducible assumption) | (with_reducible refine Up.alloc ?_ _) | (with_reducible refine Up.drew ?_) | (with_reducible refine Up.drewN ?_ _) | (with_reducible refine Up.setCell ?_ ?_ _) | (with_reducible refine Up.call ?_ (by with_reducible assumption)) | go_size))⟩
  go_enter Tryd.func24, Tryd.ntmps24
  go_wp2_with (go_at_call 40; ((with_reducible refine (rints_nil da dl dc _).mono ?_); rintro E w1 ⟨rfl, hu1⟩; have z1 := hu1.size; (try simp at z1); have RA : Row w1 (w.heap.size) #[.int .i64 wd, .int .i64 cp, .int .i64 jn, .int .i64 mt, .slice da dl dc, .int .i64 ph] := Row.up (show Row _ (w.heap.size) #[.int .i64 wd, .int .i64 cp, .int .i64 jn, .int .i64 mt, .slice da dl dc, .int .i64 ph] by (repeat' (first | (with_reducible assumption) | (with_reducible refine Row.at _ _ ?_; (simp; done)) | (with_reducible refine Row.alloc ?_ _) | (with_reducible refine Row.drew ?_) | (with_reducible refine Row.drewN ?_ _) | (with_reducible refine Row.other ?_ (by first | (simp; done) | (simp; omega) | omega) _) | (with_reducible refine Row.up ?_ (by with_reducible assumption)) | (with_reducible refine Row.chg ?_ (by with_reducible assumption) (by first | (simp; done) | (simp; omega)))))) hu1; have lA := RA.lt; have qA_0 : w1.cell? ⟨w.heap.size, 0, none⟩ = some (.int .i64 wd) := RA.cell 0 rfl; have qA_1 : w1.cell? ⟨w.heap.size, 1, none⟩ = some (.int .i64 cp) := RA.cell 1 rfl; have qA_2 : w1.cell? ⟨w.heap.size, 2, none⟩ = some (.int .i64 jn) := RA.cell 2 rfl; have qA_3 : w1.cell? ⟨w.heap.size, 3, none⟩ = some (.int .i64 mt) := RA.cell 3 rfl; have qA_4 : w1.cell? ⟨w.heap.size, 4, none⟩ = some (.slice da dl dc) := RA.cell 4 rfl; have qA_5 : w1.cell? ⟨w.heap.size, 5, none⟩ = some (.int .i64 ph) := RA.cell 5 rfl; have RB : Row w1 (w.heap.size + 1) #[.int .i64 0, .int .i64 0, .int .i64 0, .int .i64 0, .slice none 0 0, .int .i64 0] := Row.up (show Row _ (w.heap.size + 1) #[.int .i64 0, .int .i64 0, .int .i64 0, .int .i64 0, .slice none 0 0, .int .i64 0] by (repeat' (first | (with_reducible assumption) | (with_reducible refine Row.at _ _ ?_; (simp; done)) | (with_reducible refine Row.alloc ?_ _) | (with_reducible refine Row.drew ?_) | (with_reducible refine Row.drewN ?_ _) | (with_reducible refine Row.other ?_ (by first | (simp; done) | (simp; omega) | omega) _) | (with_reducible refine Row.up ?_ (by with_reducible assumption)) | (with_reducible refine Row.chg ?_ (by with_reducible assumption) (by first | (simp; done) | (simp; omega)))))) hu1; have lB := RB.lt; have qB_0 : w1.cell? ⟨w.heap.size + 1, 0, none⟩ = some (.int .i64 0) := RB.cell 0 rfl; have qB_1 : w1.cell? ⟨w.heap.size + 1, 1, none⟩ = some (.int .i64 0) := RB.cell 1 rfl; have qB_2 : w1.cell? ⟨w.heap.size + 1, 2, none⟩ = some (.int .i64 0) := RB.cell 2 rfl; have qB_3 : w1.cell? ⟨w.heap.size + 1, 3, none⟩ = some (.int .i64 0) := RB.cell 3 rfl; have qB_4 : w1.cell? ⟨w.heap.size + 1, 4, none⟩ = some (.slice none 0 0) := RB.cell 4 rfl; have qB_5 : w1.cell? ⟨w.heap.size + 1, 5, none⟩ = some (.int .i64 0) := RB.cell 5 rfl))
  go_ret
  exact ⟨by simp [noneR, h1, h2, h3, h4, h5, h6], by (repeat' (first | (with_reducible exact Up.refl _) | (with_reducible assumption) | (with_reducible refine Up.alloc ?_ _) | (with_reducible refine Up.drew ?_) | (with_reducible refine Up.drewN ?_ _) | (with_reducible refine Up.setCell ?_ ?_ _) | (with_reducible refine Up.call ?_ (by with_reducible assumption)) | go_size))⟩

theorem dash_any : ∀ (l : List Int), l.all dashOk = true → decide (0 < l.sum) = l.any (fun n => decide (0 < n))
  | [], _ => by simp
  | x :: l, h => by
    simp only [List.all_cons, Bool.and_eq_true] at h
    have h1 := dash_any l h.2
    have h2 := (dash_sum l h.2).1
    have h3 : 0 ≤ x := by
      have := h.1
      simp only [dashOk, Bool.and_eq_true, Bool.not_eq_true', decide_eq_false_iff_not] at this
      omega
    rw [List.any_cons, ← h1, List.sum_cons]
    by_cases h4 : 0 < x
    · rw [decide_eq_true h4, decide_eq_true (by omega), Bool.true_or]
    · rw [decide_eq_false h4, Bool.false_or]
      have : x = 0 := by omega
      rw [this, Int.zero_add]
set_option maxRecDepth 8000 in
set_option maxHeartbeats 4000000 in
theorem soundPen_calls (wd cp jn mt ph : Int) (da : Option Addr) (dl dc : Nat) (ds : List Int) (w : World) (hN : ds.length = dl) (hd : Ints .i64 w (.slice da dl dc) ds) :
    Calls Tryd.prog 26 #[.agg #[.int .i64 wd, .int .i64 cp, .int .i64 jn, .int .i64 mt, .slice da dl dc, .int .i64 ph]] w fun E w' => E = .returned (.bool (penR wd cp jn mt ds ph)) ∧ Up w w' := by
  have HN := Lib.hid hN
  have HD := Lib.hid hd
  clear hN hd
  obtain ⟨b_h1, h1⟩ : ∃ b, (decide (wd < 0)) = b := ⟨_, rfl⟩
  cases b_h1
  rotate_left
  · have H := Lib.hid (show penR wd cp jn mt ds ph = false by have e : penB wd cp jn mt ds.length ph = true := (by simp only [penB, HN.out, h1]; simp); simp only [penR, e, Bool.not_true, Bool.false_and])
    go_enter Tryd.func26, Tryd.ntmps26
    go_wp2_with (go_at_call 25; ((with_reducible refine (Rfix.fits_calls _ _).mono ?_); rintro e w' ⟨rfl, rfl⟩))
    go_ret
    exact ⟨by rw [H.out]; rfl, by (repeat' (first | (with_reducible exact Up.refl _) | (with_reducible assumption) | (with_reducible refine Up.alloc ?_ _) | (with_reducible refine Up.drew ?_) | (with_reducible refine Up.drewN ?_ _) | (with_reducible refine Up.setCell ?_ ?_ _) | (with_reducible refine Up.call ?_ (by with_reducible assumption)) | go_size))⟩
  obtain ⟨b_h2, h2⟩ : ∃ b, (fits wd) = b := ⟨_, rfl⟩
  cases b_h2
  · have H := Lib.hid (show penR wd cp jn mt ds ph = false by have e : penB wd cp jn mt ds.length ph = true := (by simp only [penB, HN.out, h1, h2]; simp); simp only [penR, e, Bool.not_true, Bool.false_and])
    go_enter Tryd.func26, Tryd.ntmps26
    go_wp2_with (go_at_call 25; ((with_reducible refine (Rfix.fits_calls _ _).mono ?_); rintro e w' ⟨rfl, rfl⟩))
    go_ret
    exact ⟨by rw [H.out]; rfl, by (repeat' (first | (with_reducible exact Up.refl _) | (with_reducible assumption) | (with_reducible refine Up.alloc ?_ _) | (with_reducible refine Up.drew ?_) | (with_reducible refine Up.drewN ?_ _) | (with_reducible refine Up.setCell ?_ ?_ _) | (with_reducible refine Up.call ?_ (by with_reducible assumption)) | go_size))⟩
  obtain ⟨b_h3, h3⟩ : ∃ b, (decide (cp < 0)) = b := ⟨_, rfl⟩
  cases b_h3
  rotate_left
  · have H := Lib.hid (show penR wd cp jn mt ds ph = false by have e : penB wd cp jn mt ds.length ph = true := (by simp only [penB, HN.out, h1, h2, h3]; simp); simp only [penR, e, Bool.not_true, Bool.false_and])
    go_enter Tryd.func26, Tryd.ntmps26
    go_wp2_with (go_at_call 25; ((with_reducible refine (Rfix.fits_calls _ _).mono ?_); rintro e w' ⟨rfl, rfl⟩))
    go_ret
    exact ⟨by rw [H.out]; rfl, by (repeat' (first | (with_reducible exact Up.refl _) | (with_reducible assumption) | (with_reducible refine Up.alloc ?_ _) | (with_reducible refine Up.drew ?_) | (with_reducible refine Up.drewN ?_ _) | (with_reducible refine Up.setCell ?_ ?_ _) | (with_reducible refine Up.call ?_ (by with_reducible assumption)) | go_size))⟩
  obtain ⟨b_h4, h4⟩ : ∃ b, (decide (2 < cp)) = b := ⟨_, rfl⟩
  cases b_h4
  rotate_left
  · have H := Lib.hid (show penR wd cp jn mt ds ph = false by have e : penB wd cp jn mt ds.length ph = true := (by simp only [penB, HN.out, h1, h2, h3, h4]; simp); simp only [penR, e, Bool.not_true, Bool.false_and])
    go_enter Tryd.func26, Tryd.ntmps26
    go_wp2_with (go_at_call 25; ((with_reducible refine (Rfix.fits_calls _ _).mono ?_); rintro e w' ⟨rfl, rfl⟩))
    go_ret
    exact ⟨by rw [H.out]; rfl, by (repeat' (first | (with_reducible exact Up.refl _) | (with_reducible assumption) | (with_reducible refine Up.alloc ?_ _) | (with_reducible refine Up.drew ?_) | (with_reducible refine Up.drewN ?_ _) | (with_reducible refine Up.setCell ?_ ?_ _) | (with_reducible refine Up.call ?_ (by with_reducible assumption)) | go_size))⟩
  obtain ⟨b_h5, h5⟩ : ∃ b, (decide (jn < 0)) = b := ⟨_, rfl⟩
  cases b_h5
  rotate_left
  · have H := Lib.hid (show penR wd cp jn mt ds ph = false by have e : penB wd cp jn mt ds.length ph = true := (by simp only [penB, HN.out, h1, h2, h3, h4, h5]; simp); simp only [penR, e, Bool.not_true, Bool.false_and])
    go_enter Tryd.func26, Tryd.ntmps26
    go_wp2_with (go_at_call 25; ((with_reducible refine (Rfix.fits_calls _ _).mono ?_); rintro e w' ⟨rfl, rfl⟩))
    go_ret
    exact ⟨by rw [H.out]; rfl, by (repeat' (first | (with_reducible exact Up.refl _) | (with_reducible assumption) | (with_reducible refine Up.alloc ?_ _) | (with_reducible refine Up.drew ?_) | (with_reducible refine Up.drewN ?_ _) | (with_reducible refine Up.setCell ?_ ?_ _) | (with_reducible refine Up.call ?_ (by with_reducible assumption)) | go_size))⟩
  obtain ⟨b_h6, h6⟩ : ∃ b, (decide (2 < jn)) = b := ⟨_, rfl⟩
  cases b_h6
  rotate_left
  · have H := Lib.hid (show penR wd cp jn mt ds ph = false by have e : penB wd cp jn mt ds.length ph = true := (by simp only [penB, HN.out, h1, h2, h3, h4, h5, h6]; simp); simp only [penR, e, Bool.not_true, Bool.false_and])
    go_enter Tryd.func26, Tryd.ntmps26
    go_wp2_with (go_at_call 25; ((with_reducible refine (Rfix.fits_calls _ _).mono ?_); rintro e w' ⟨rfl, rfl⟩))
    go_ret
    exact ⟨by rw [H.out]; rfl, by (repeat' (first | (with_reducible exact Up.refl _) | (with_reducible assumption) | (with_reducible refine Up.alloc ?_ _) | (with_reducible refine Up.drew ?_) | (with_reducible refine Up.drewN ?_ _) | (with_reducible refine Up.setCell ?_ ?_ _) | (with_reducible refine Up.call ?_ (by with_reducible assumption)) | go_size))⟩
  obtain ⟨b_h7, h7⟩ : ∃ b, (decide (mt < 65536)) = b := ⟨_, rfl⟩
  cases b_h7
  rotate_left
  · have H := Lib.hid (show penR wd cp jn mt ds ph = false by have e : penB wd cp jn mt ds.length ph = true := (by simp only [penB, HN.out, h1, h2, h3, h4, h5, h6, h7]; simp); simp only [penR, e, Bool.not_true, Bool.false_and])
    go_enter Tryd.func26, Tryd.ntmps26
    go_wp2_with (go_at_call 25; ((with_reducible refine (Rfix.fits_calls _ _).mono ?_); rintro e w' ⟨rfl, rfl⟩))
    go_ret
    exact ⟨by rw [H.out]; rfl, by (repeat' (first | (with_reducible exact Up.refl _) | (with_reducible assumption) | (with_reducible refine Up.alloc ?_ _) | (with_reducible refine Up.drew ?_) | (with_reducible refine Up.drewN ?_ _) | (with_reducible refine Up.setCell ?_ ?_ _) | (with_reducible refine Up.call ?_ (by with_reducible assumption)) | go_size))⟩
  obtain ⟨b_h8, h8⟩ : ∃ b, (fits mt) = b := ⟨_, rfl⟩
  cases b_h8
  · have H := Lib.hid (show penR wd cp jn mt ds ph = false by have e : penB wd cp jn mt ds.length ph = true := (by simp only [penB, HN.out, h1, h2, h3, h4, h5, h6, h7, h8]; simp); simp only [penR, e, Bool.not_true, Bool.false_and])
    go_enter Tryd.func26, Tryd.ntmps26
    go_wp2_with (go_at_call 25; ((with_reducible refine (Rfix.fits_calls _ _).mono ?_); rintro e w' ⟨rfl, rfl⟩))
    go_ret
    exact ⟨by rw [H.out]; rfl, by (repeat' (first | (with_reducible exact Up.refl _) | (with_reducible assumption) | (with_reducible refine Up.alloc ?_ _) | (with_reducible refine Up.drew ?_) | (with_reducible refine Up.drewN ?_ _) | (with_reducible refine Up.setCell ?_ ?_ _) | (with_reducible refine Up.call ?_ (by with_reducible assumption)) | go_size))⟩
  obtain ⟨b_h9, h9⟩ : ∃ b, (decide (ph < 0)) = b := ⟨_, rfl⟩
  cases b_h9
  rotate_left
  · have H := Lib.hid (show penR wd cp jn mt ds ph = false by have e : penB wd cp jn mt ds.length ph = true := (by simp only [penB, HN.out, h1, h2, h3, h4, h5, h6, h7, h8, h9]; simp); simp only [penR, e, Bool.not_true, Bool.false_and])
    go_enter Tryd.func26, Tryd.ntmps26
    go_wp2_with (go_at_call 25; ((with_reducible refine (Rfix.fits_calls _ _).mono ?_); rintro e w' ⟨rfl, rfl⟩))
    go_ret
    exact ⟨by rw [H.out]; rfl, by (repeat' (first | (with_reducible exact Up.refl _) | (with_reducible assumption) | (with_reducible refine Up.alloc ?_ _) | (with_reducible refine Up.drew ?_) | (with_reducible refine Up.drewN ?_ _) | (with_reducible refine Up.setCell ?_ ?_ _) | (with_reducible refine Up.call ?_ (by with_reducible assumption)) | go_size))⟩
  obtain ⟨b_h10, h10⟩ : ∃ b, (fits ph) = b := ⟨_, rfl⟩
  cases b_h10
  · have H := Lib.hid (show penR wd cp jn mt ds ph = false by have e : penB wd cp jn mt ds.length ph = true := (by simp only [penB, HN.out, h1, h2, h3, h4, h5, h6, h7, h8, h9, h10]; simp); simp only [penR, e, Bool.not_true, Bool.false_and])
    go_enter Tryd.func26, Tryd.ntmps26
    go_wp2_with (go_at_call 25; ((with_reducible refine (Rfix.fits_calls _ _).mono ?_); rintro e w' ⟨rfl, rfl⟩))
    go_ret
    exact ⟨by rw [H.out]; rfl, by (repeat' (first | (with_reducible exact Up.refl _) | (with_reducible assumption) | (with_reducible refine Up.alloc ?_ _) | (with_reducible refine Up.drew ?_) | (with_reducible refine Up.drewN ?_ _) | (with_reducible refine Up.setCell ?_ ?_ _) | (with_reducible refine Up.call ?_ (by with_reducible assumption)) | go_size))⟩
  obtain ⟨b_h11, h11⟩ : ∃ b, (decide ((11 : Int) < (dl : Int))) = b := ⟨_, rfl⟩
  cases b_h11
  rotate_left
  · have H := Lib.hid (show penR wd cp jn mt ds ph = false by have e : penB wd cp jn mt ds.length ph = true := (by simp only [penB, HN.out, h1, h2, h3, h4, h5, h6, h7, h8, h9, h10, h11]; simp); simp only [penR, e, Bool.not_true, Bool.false_and])
    go_enter Tryd.func26, Tryd.ntmps26
    go_wp2_with (go_at_call 25; ((with_reducible refine (Rfix.fits_calls _ _).mono ?_); rintro e w' ⟨rfl, rfl⟩))
    go_ret
    exact ⟨by rw [H.out]; rfl, by (repeat' (first | (with_reducible exact Up.refl _) | (with_reducible assumption) | (with_reducible refine Up.alloc ?_ _) | (with_reducible refine Up.drew ?_) | (with_reducible refine Up.drewN ?_ _) | (with_reducible refine Up.setCell ?_ ?_ _) | (with_reducible refine Up.call ?_ (by with_reducible assumption)) | go_size))⟩
  have HB := Lib.hid (show penB wd cp jn mt ds.length ph = false by simp only [penB, HN.out, h1, h2, h3, h4, h5, h6, h7, h8, h9, h10, h11]; simp)
  have hd11 : dl ≤ 11 := by have := h11; simp at this; omega
  have HZD := Lib.hid (show (dl == 0) = ((dl : Int) == 0) by cases dl <;> simp <;> omega)
  obtain ⟨z, hz⟩ : ∃ z, ((dl : Int) == 0) = z := ⟨_, rfl⟩
  have HZ := Lib.hid hz
  go_enter Tryd.func26, Tryd.ntmps26
  go_wp2_with (go_at_call 25; ((with_reducible refine (Rfix.fits_calls _ _).mono ?_); rintro e w' ⟨rfl, rfl⟩))
  go_loop [3, 4] (fun s3 s4 => ∃ k : Nat, ∃ f : Bool, k ≤ dl ∧ s3 = .bool f ∧ s4 = .int .i64 k ∧ Hid (f = (z || (ds.take k).any (fun n => decide (0 < n)))) ∧ Hid ((ds.take k).all dashOk = true)) (fun _ s4 => dl - (intOf s4).toNat)
  case atStart => exact ⟨0, z, Nat.zero_le _, rfl, rfl, Lib.hid (by simp), Lib.hid (by simp)⟩
  case round =>
    obtain ⟨k, f, hk, rfl, rfl, HF, HA⟩ := hrel
    clear hz
    by_cases hlt : k < dl
    · obtain ⟨x, hx⟩ : ∃ x, ds[k]? = some x := ⟨_, List.getElem?_eq_getElem (by have := HN.out; omega)⟩
      obtain ⟨gb, ob, rfl, hgb, hcb⟩ := ints_some HD.out HN.out (by omega)
      have hq : w.cell? ⟨gb, ob + k, none⟩ = some (.int .i64 x) := by
        rw [hcb k hlt]
        have : ds.getD k 0 = x := by rw [List.getD_eq_getElem?_getD, hx]; rfl
        rw [this]
      have hgb1 : gb < w.heap.size + 1 := by omega
      have HX := Lib.hid hx
      have hcast : decide ((k : Int) < (dl : Int)) = true := decide_eq_true (by omega)
      clear hx hcb
      have HBAD := Lib.hid (fun (h : dashOk x = false) => Lib.hid (show penR wd cp jn mt ds ph = false by
        have e : ds.all dashOk = false := by
          rw [List.all_eq_false]
          exact ⟨x, List.mem_of_getElem? HX.out, by simp [h]⟩
        simp [penR, e]))
      obtain ⟨b1, q1⟩ : ∃ b, decide (x < 0) = b := ⟨_, rfl⟩
      cases b1
      rotate_left
      · have H := HBAD.out (by simp [dashOk, q1])
        go_wp2_with (go_at_call 25; ((with_reducible refine (Rfix.fits_calls _ _).mono ?_); rintro e w' ⟨rfl, rfl⟩))
        go_ret
        exact ⟨by rw [H.out]; rfl, by (repeat' (first | (with_reducible exact Up.refl _) | (with_reducible assumption) | (with_reducible refine Up.alloc ?_ _) | (with_reducible refine Up.drew ?_) | (with_reducible refine Up.drewN ?_ _) | (with_reducible refine Up.setCell ?_ ?_ _) | (with_reducible refine Up.call ?_ (by with_reducible assumption)) | go_size))⟩
      obtain ⟨b2, q2⟩ : ∃ b, fits x = b := ⟨_, rfl⟩
      cases b2
      · have H := HBAD.out (by simp [dashOk, q1, q2])
        go_wp2_with (go_at_call 25; ((with_reducible refine (Rfix.fits_calls _ _).mono ?_); rintro e w' ⟨rfl, rfl⟩))
        go_ret
        exact ⟨by rw [H.out]; rfl, by (repeat' (first | (with_reducible exact Up.refl _) | (with_reducible assumption) | (with_reducible refine Up.alloc ?_ _) | (with_reducible refine Up.drew ?_) | (with_reducible refine Up.drewN ?_ _) | (with_reducible refine Up.setCell ?_ ?_ _) | (with_reducible refine Up.call ?_ (by with_reducible assumption)) | go_size))⟩
      have HOK := Lib.hid (show dashOk x = true by simp [dashOk, q1, q2])
      obtain ⟨b3, q3⟩ : ∃ b, decide (0 < x) = b := ⟨_, rfl⟩
      have HQ3 := Lib.hid q3
      have HANY := Lib.hid (show (ds.take (k + 1)).any (fun n => decide (0 < n)) = ((ds.take k).any (fun n => decide (0 < n)) || b3) by
        obtain ⟨hlt2, e⟩ := List.getElem?_eq_some_iff.1 HX.out
        rw [List.take_succ_eq_append_getElem hlt2, List.any_append, e]
        simp [HQ3.out])
      cases f
      · go_wp2_with (go_at_call 25; ((with_reducible refine (Rfix.fits_calls _ _).mono ?_); rintro e w' ⟨rfl, rfl⟩))
        go_roundw
        case rel => exact ⟨k + 1, b3, by omega, rfl, by go_num, Lib.hid (by rw [HANY.out, ← Bool.or_assoc, ← HF.out, Bool.false_or]), Lib.hid (all_step HX.out HA.out HOK.out)⟩
        case measure => simp [intOf]; omega
      · go_wp2_with (go_at_call 25; ((with_reducible refine (Rfix.fits_calls _ _).mono ?_); rintro e w' ⟨rfl, rfl⟩))
        go_roundw
        case rel => exact ⟨k + 1, true, by omega, rfl, by go_num, Lib.hid (by rw [HANY.out, ← Bool.or_assoc, ← HF.out, Bool.true_or]), Lib.hid (all_step HX.out HA.out HOK.out)⟩
        case measure => simp [intOf]; omega
    · have hcast : decide ((k : Int) < (dl : Int)) = false := decide_eq_false (by omega)
      have HALL := Lib.hid (show ds.all dashOk = true by have := HA.out; rwa [List.take_of_length_le (by have := HN.out; omega)] at this)
      have HR := Lib.hid (show penR wd cp jn mt ds ph = f by
        have h1 := HB.out
        rw [HN.out] at h1
        have h2 := HF.out
        rw [List.take_of_length_le (by have := HN.out; omega)] at h2
        simp only [penR, HN.out, h1, HALL.out, Bool.not_false, Bool.true_and]
        rw [HZD.out, HZ.out, h2, dash_any _ HALL.out])
      go_wp2
      go_ret
      exact ⟨by rw [HR.out]; rfl, by (repeat' (first | (with_reducible exact Up.refl _) | (with_reducible assumption) | (with_reducible refine Up.alloc ?_ _) | (with_reducible refine Up.drew ?_) | (with_reducible refine Up.drewN ?_ _) | (with_reducible refine Up.setCell ?_ ?_ _) | (with_reducible refine Up.call ?_ (by with_reducible assumption)) | go_size))⟩

end Go.Proofs.YteddlahklilncaaDoor.Pt