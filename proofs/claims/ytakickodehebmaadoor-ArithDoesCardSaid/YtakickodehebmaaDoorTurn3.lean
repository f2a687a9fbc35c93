/- Rotate of package mat and of its reference, over all numbers. The package's table lies as the program's text has it. -/
import Derived.Test.YtakickodehebmaaDoorTurn2
namespace Go.Proofs.YtakickodehebmaaDoor.Turn
open Go.ChangeShapes Go.WideShapes Go.ChangeAt Go.RowKit
open Go.Proofs.YtakickodehebmaaDoor.FixM (fits)
open Go.Proofs.YtakickodehebmaaDoor.MatM (none6)
open Go.Proofs.YtakickodehebmaaDoor.TurnM
set_option linter.unusedVariables false
set_option linter.unusedSimpArgs false

theorem rotate_calls (n : Int) (w : World) (hT : Tab w) :
    Calls Tryd.prog 67 #[.int .i64 n] w fun E w' => E = .returned (.tuple #[.agg #[.int .i64 (rot n).1.a, .int .i64 (rot n).1.b, .int .i64 (rot n).1.c, .int .i64 (rot n).1.d, .int .i64 (rot n).1.x, .int .i64 (rot n).1.y], .int .i64 (rot n).2]) ∧ Up w w' := by
  by_cases hf : fits n = true
  · have hr : rot n = (turn ((n + 32768) / 65536), 0) := by simp [rot, hf]
    rw [hr]
    dsimp only [turn]
    have hb := FixM.fits_iff.1 hf
    obtain ⟨D, hD⟩ : ∃ D, (n + 32768) / 65536 = D := ⟨_, rfl⟩
    have hs : (n + 32768) >>> 16 = D := by rw [Int.shiftRight_eq_div_pow]; exact hD
    obtain ⟨q, hq⟩ : ∃ q, D.tmod 360 = q := ⟨_, rfl⟩
    obtain ⟨-, t1, t2, -⟩ := FixM.tdm D 360 (by decide)
    rw [hq] at t1 t2
    obtain ⟨r, hr2⟩ : ∃ r, D % 360 = r := ⟨_, rfl⟩
    have ht := tmod360 D
    rw [hq, hr2] at ht
    have hq2 : (q + 360).tmod 360 = r := by
      rw [Int.tmod_eq_emod_of_nonneg (by omega)]
      split at ht <;> omega
    have hq3 : (q + 360) % 360 = r := by split at ht <;> omega
    have hr0 : 0 ≤ r := by omega
    have hr1 : r < 360 := by omega
    have S1 := Lib.hid (show sinI (r + 90) = sinI (D + 90) by rw [← hr2]; exact sinI_mod90 D)
    have S2 := Lib.hid (show sinI r = sinI D by rw [← hr2]; exact sinI_mod D)
    have hb2 := sinI_bound r
    obtain ⟨b1, b2⟩ := hb2
    rw [hD, ← S1.out, ← S2.out]
    have hD0 : -40000 ≤ D := by omega
    have hD1 : D ≤ 40000 := by omega
    have HT := Lib.hid hT
    clear hT ht hr hr2 hs
    obtain ⟨c, hc⟩ : ∃ c, sinI (r + 90) = c := ⟨_, rfl⟩
    obtain ⟨s, hs2⟩ : ∃ s, sinI r = s := ⟨_, rfl⟩
    rw [hs2] at b1 b2
    rw [hc, hs2]
    have HC := Lib.hid hc
    have HS := Lib.hid hs2
    clear hc hs2 S1 S2
    go_enter Tryd.func67, Tryd.ntmps67
    go_wp2_with (first
      | (go_at_call 62; ((with_reducible refine (Fix.fits_calls _ _).mono ?_); rintro e w' ⟨rfl, rfl⟩))
      | (go_at_call 81; ((with_reducible refine (sine_calls (r + 90) (by omega) (by omega) _ (HT.out.up (by (repeat' (first | (with_reducible exact Up.refl _) | (with_reducible assumption) | (with_reducible refine Up.alloc ?_ _) | (with_reducible refine Up.drew ?_) | (with_reducible refine Up.drewN ?_ _) | (with_reducible refine Up.setCell ?_ ?_ _) | (with_reducible refine Up.call ?_ (by with_reducible assumption)) | go_size))))).mono ?_); rw [HC.out]; rintro e w' ⟨rfl, rfl⟩))
      | (go_at_call 81; ((with_reducible refine (sine_calls r (by omega) (by omega) _ (HT.out.up (by (repeat' (first | (with_reducible exact Up.refl _) | (with_reducible assumption) | (with_reducible refine Up.alloc ?_ _) | (with_reducible refine Up.drew ?_) | (with_reducible refine Up.drewN ?_ _) | (with_reducible refine Up.setCell ?_ ?_ _) | (with_reducible refine Up.call ?_ (by with_reducible assumption)) | go_size))))).mono ?_); rw [HS.out]; rintro e w' ⟨rfl, rfl⟩)))
    go_returns
    exact ⟨rfl, by (repeat' (first | (with_reducible exact Up.refl _) | (with_reducible assumption) | (with_reducible refine Up.alloc ?_ _) | (with_reducible refine Up.drew ?_) | (with_reducible refine Up.drewN ?_ _) | (with_reducible refine Up.setCell ?_ ?_ _) | (with_reducible refine Up.call ?_ (by with_reducible assumption)) | go_size))⟩
  · have hf : fits n = false := by simpa using hf
    have hr : rot n = (none6, 11) := by simp [rot, hf]
    rw [hr]
    dsimp only [none6]
    clear hr hT
    go_enter Tryd.func67, Tryd.ntmps67
    go_wp2_with (go_at_call 62; ((with_reducible refine (Fix.fits_calls _ _).mono ?_); rintro e w' ⟨rfl, rfl⟩))
    go_returns
    exact ⟨rfl, by (repeat' (first | (with_reducible exact Up.refl _) | (with_reducible assumption) | (with_reducible refine Up.alloc ?_ _) | (with_reducible refine Up.drew ?_) | (with_reducible refine Up.drewN ?_ _) | (with_reducible refine Up.setCell ?_ ?_ _) | (with_reducible refine Up.call ?_ (by with_reducible assumption)) | go_size))⟩

theorem rrotate_calls (n : Int) (w : World) :
    Calls Tryd.prog 52 #[.int .i64 n] w fun E w' => E = .returned (.tuple #[.agg #[.int .i64 (rot n).1.a, .int .i64 (rot n).1.b, .int .i64 (rot n).1.c, .int .i64 (rot n).1.d, .int .i64 (rot n).1.x, .int .i64 (rot n).1.y], .int .i64 (rot n).2]) ∧ Up w w' := by
  by_cases hf : fits n = true
  · have hr : rot n = (turn ((n + 32768) / 65536), 0) := by simp [rot, hf]
    rw [hr]
    dsimp only [turn]
    have hb := FixM.fits_iff.1 hf
    obtain ⟨D, hD⟩ : ∃ D, (n + 32768) / 65536 = D := ⟨_, rfl⟩
    rw [hD]
    obtain ⟨b, hbb⟩ : ∃ b, n - n % 65536 = b := ⟨_, rfl⟩
    have hB := Lib.hid hbb
    obtain ⟨b1, b2⟩ := sinI_bound D
    obtain ⟨c, hc⟩ : ∃ c, sinI (D + 90) = c := ⟨_, rfl⟩
    obtain ⟨s, hs2⟩ : ∃ s, sinI D = s := ⟨_, rfl⟩
    rw [hs2] at b1 b2
    rw [hc, hs2]
    have HC := Lib.hid hc
    have HS := Lib.hid hs2
    have hD0 : -40000 ≤ D := by omega
    have hD1 : D ≤ 40000 := by omega
    have hm0 : 0 ≤ n - b := by omega
    have hm1 : n - b < 65536 := by omega
    clear hc hs2 hr
    by_cases h : 32768 ≤ n - b
    · have d1 : decide (32768 ≤ n - b) = true := decide_eq_true h
      have e1 : b + 65536 = D * 65536 := by omega
      have e2 : (b + 65536).tdiv 65536 = D := by rw [e1]; exact Int.mul_tdiv_cancel D (by decide)
      clear hD hbb
      go_enter Tryd.func52, Tryd.ntmps52
      go_wp2_with (first
        | (go_at_call 37; ((with_reducible refine (Rfix.fits_calls _ _).mono ?_); rintro e w' ⟨rfl, rfl⟩))
        | (go_at_call 76; ((with_reducible refine (Rfix.below_calls n _ (by omega) (by omega)).mono ?_); rw [hB.out]; rintro e w' ⟨rfl, rfl⟩))
        | (go_at_call 77; ((with_reducible refine (rsine_calls (D + 90) (by omega) (by omega) _).mono ?_); rw [HC.out]; rintro e w' ⟨rfl, hu⟩))
        | (go_at_call 77; ((with_reducible refine (rsine_calls D (by omega) (by omega) _).mono ?_); rw [HS.out]; rintro e w' ⟨rfl, hu⟩))
        | (with_reducible refine atOp (.store 76 (.tmp 2) _) rfl ?_; (refine wpList_store_Row rfl 76 (.tmp 2) _ rfl w.heap.size #[.int .i64 c, .int .i64 s, .int .i64 (-s), .int .i64 c, .int .i64 0, .int .i64 0] rfl rfl #[.int .i64 0, .int .i64 0, .int .i64 0, .int .i64 0, .int .i64 0, .int .i64 0] ?_ Mat2.info6 rfl rfl (by simp [Value.oneCell']) ?_); (focus (exact (by (repeat' (first | (with_reducible assumption) | (with_reducible refine Row.at _ _ ?_; (simp; done)) | (with_reducible refine Row.alloc ?_ _) | (with_reducible refine Row.drew ?_) | (with_reducible refine Row.drewN ?_ _) | (with_reducible refine Row.other ?_ (by first | (simp; done) | (simp; omega) | omega) _) | (with_reducible refine Row.up ?_ (by with_reducible assumption)) | (with_reducible refine Row.chg ?_ (by with_reducible assumption) (by first | (simp; done) | (simp; omega)))))))); intro w9 hr9 hc9))
      have g0 : w9.cell? ⟨w.heap.size, 0, none⟩ = some (.int .i64 c) := hr9.cell 0 rfl
      have g1 : w9.cell? ⟨w.heap.size, 1, none⟩ = some (.int .i64 s) := hr9.cell 1 rfl
      have g2 : w9.cell? ⟨w.heap.size, 2, none⟩ = some (.int .i64 (-s)) := hr9.cell 2 rfl
      have g3 : w9.cell? ⟨w.heap.size, 3, none⟩ = some (.int .i64 c) := hr9.cell 3 rfl
      have g4 : w9.cell? ⟨w.heap.size, 4, none⟩ = some (.int .i64 0) := hr9.cell 4 rfl
      have g5 : w9.cell? ⟨w.heap.size, 5, none⟩ = some (.int .i64 0) := hr9.cell 5 rfl
      exact bodyPost_ret (v := .tuple #[.agg #[.int .i64 c, .int .i64 s, .int .i64 (-s), .int .i64 c, .int .i64 0, .int .i64 0], .int .i64 0]) (by simp [results, Tryd.results52, go_sem, g0, g1, g2, g3, g4, g5]) rfl ⟨rfl, Chg.up (by (repeat' (first | (with_reducible exact Chg.refl _ _) | (with_reducible assumption) | (with_reducible refine Chg.alloc ?_ _) | (with_reducible refine Chg.drew ?_) | (with_reducible refine Chg.drewN ?_ _) | (with_reducible refine Chg.setCell ?_ ?_ _) | (with_reducible refine Chg.upc ?_ (by with_reducible assumption)) | (with_reducible refine Chg.call ?_ (by with_reducible assumption) ?_) | (refine Or.inl ?_; (simp; done)) | (simp; done) | (simp; omega) | omega)))⟩
    · have d1 : decide (32768 ≤ n - b) = false := decide_eq_false h
      have e1 : b = D * 65536 := by omega
      have e2 : b.tdiv 65536 = D := by rw [e1]; exact Int.mul_tdiv_cancel D (by decide)
      clear hD hbb
      go_enter Tryd.func52, Tryd.ntmps52
      go_wp2_with (first
        | (go_at_call 37; ((with_reducible refine (Rfix.fits_calls _ _).mono ?_); rintro e w' ⟨rfl, rfl⟩))
        | (go_at_call 76; ((with_reducible refine (Rfix.below_calls n _ (by omega) (by omega)).mono ?_); rw [hB.out]; rintro e w' ⟨rfl, rfl⟩))
        | (go_at_call 77; ((with_reducible refine (rsine_calls (D + 90) (by omega) (by omega) _).mono ?_); rw [HC.out]; rintro e w' ⟨rfl, hu⟩))
        | (go_at_call 77; ((with_reducible refine (rsine_calls D (by omega) (by omega) _).mono ?_); rw [HS.out]; rintro e w' ⟨rfl, hu⟩))
        | (with_reducible refine atOp (.store 76 (.tmp 2) _) rfl ?_; (refine wpList_store_Row rfl 76 (.tmp 2) _ rfl w.heap.size #[.int .i64 c, .int .i64 s, .int .i64 (-s), .int .i64 c, .int .i64 0, .int .i64 0] rfl rfl #[.int .i64 0, .int .i64 0, .int .i64 0, .int .i64 0, .int .i64 0, .int .i64 0] ?_ Mat2.info6 rfl rfl (by simp [Value.oneCell']) ?_); (focus (exact (by (repeat' (first | (with_reducible assumption) | (with_reducible refine Row.at _ _ ?_; (simp; done)) | (with_reducible refine Row.alloc ?_ _) | (with_reducible refine Row.drew ?_) | (with_reducible refine Row.drewN ?_ _) | (with_reducible refine Row.other ?_ (by first | (simp; done) | (simp; omega) | omega) _) | (with_reducible refine Row.up ?_ (by with_reducible assumption)) | (with_reducible refine Row.chg ?_ (by with_reducible assumption) (by first | (simp; done) | (simp; omega)))))))); intro w9 hr9 hc9))
      have g0 : w9.cell? ⟨w.heap.size, 0, none⟩ = some (.int .i64 c) := hr9.cell 0 rfl
      have g1 : w9.cell? ⟨w.heap.size, 1, none⟩ = some (.int .i64 s) := hr9.cell 1 rfl
      have g2 : w9.cell? ⟨w.heap.size, 2, none⟩ = some (.int .i64 (-s)) := hr9.cell 2 rfl
      have g3 : w9.cell? ⟨w.heap.size, 3, none⟩ = some (.int .i64 c) := hr9.cell 3 rfl
      have g4 : w9.cell? ⟨w.heap.size, 4, none⟩ = some (.int .i64 0) := hr9.cell 4 rfl
      have g5 : w9.cell? ⟨w.heap.size, 5, none⟩ = some (.int .i64 0) := hr9.cell 5 rfl
      exact bodyPost_ret (v := .tuple #[.agg #[.int .i64 c, .int .i64 s, .int .i64 (-s), .int .i64 c, .int .i64 0, .int .i64 0], .int .i64 0]) (by simp [results, Tryd.results52, go_sem, g0, g1, g2, g3, g4, g5]) rfl ⟨rfl, Chg.up (by (repeat' (first | (with_reducible exact Chg.refl _ _) | (with_reducible assumption) | (with_reducible refine Chg.alloc ?_ _) | (with_reducible refine Chg.drew ?_) | (with_reducible refine Chg.drewN ?_ _) | (with_reducible refine Chg.setCell ?_ ?_ _) | (with_reducible refine Chg.upc ?_ (by with_reducible assumption)) | (with_reducible refine Chg.call ?_ (by with_reducible assumption) ?_) | (refine Or.inl ?_; (simp; done)) | (simp; done) | (simp; omega) | omega)))⟩
  · have hf : fits n = false := by simpa using hf
    have hr : rot n = (none6, 11) := by simp [rot, hf]
    rw [hr]
    dsimp only [none6]
    clear hr
    go_enter Tryd.func52, Tryd.ntmps52
    go_wp2_with (go_at_call 37; ((with_reducible refine (Rfix.fits_calls _ _).mono ?_); rintro e w' ⟨rfl, rfl⟩))
    go_returns
    exact ⟨rfl, by (repeat' (first | (with_reducible exact Up.refl _) | (with_reducible assumption) | (with_reducible refine Up.alloc ?_ _) | (with_reducible refine Up.drew ?_) | (with_reducible refine Up.drewN ?_ _) | (with_reducible refine Up.setCell ?_ ?_ _) | (with_reducible refine Up.call ?_ (by with_reducible assumption)) | go_size))⟩

end Go.Proofs.YtakickodehebmaaDoor.Turn
