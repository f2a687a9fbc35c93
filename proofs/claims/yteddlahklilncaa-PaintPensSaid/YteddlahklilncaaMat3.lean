/- What Invert and Scale of package mat return, over all numbers. No condition. -/
import Derived.Test.YteddlahklilncaaMat
import Derived.Test.YteddlahklilncaaMatM2
import Derived.Lib.MinMax
namespace Go.Proofs.Yteddlahklilncaa.Mat3
open Go.ChangeShapes Go.WideShapes Go.ChangeAt Go.RowKit
open Go.Proofs.Yteddlahklilncaa.FixM (fits mul div sub add sum sqrt)
open Go.Proofs.Yteddlahklilncaa.MatM
set_option linter.unusedVariables false
set_option linter.unusedSimpArgs false

theorem info6 : (Try.prog.info? 32).map (·.size) = some 6 := by kernel_rfl

theorem scale_calls (m0 m1 m2 m3 m4 m5 : Int) (w : World) :
    Calls Try.prog 43 #[.agg #[.int .i64 m0, .int .i64 m1, .int .i64 m2, .int .i64 m3, .int .i64 m4, .int .i64 m5]] w fun E w' => E = .returned (.tuple #[.int .i64 (scale m0 m1 m2 m3).1, .int .i64 (scale m0 m1 m2 m3).2]) ∧ Up w w' := by
  obtain ⟨d, e, hD⟩ : ∃ d e, det 0 m0 m1 m2 m3 = (d, e) := ⟨_, _, rfl⟩
  have HD := Lib.hid hD
  have hS := scale_walk m0 m1 m2 m3
  simp only [hD] at hS
  clear hD
  by_cases hd : d < 0
  · rw [if_pos hd] at hS
    obtain ⟨s, f, hF⟩ : ∃ s f, sub 0 d = (s, f) := ⟨_, _, rfl⟩
    have HF := Lib.hid hF
    rw [hF] at hS
    clear hF
    obtain ⟨K, hK⟩ : ∃ K, (keep (keep e f) (sqrt (max s 0)).2) = K := ⟨_, rfl⟩
    have HK := Lib.hid hK
    rw [hK] at hS
    clear hK
    have hdb : decide (d < 0) = true := by simpa using hd
    by_cases h0 : K = 0
    · subst h0
      rw [hS, if_pos rfl]
      clear hS hd
      go_enter Try.func43, Try.ntmps43
      go_wp2_with (first
        | (go_at_call 53; ((with_reducible refine (Mat.det_calls (w.heap.size + 1) 0 m0 m1 m2 m3 m4 m5 _ (by (repeat' (first | (with_reducible assumption) | (with_reducible refine One.at _ _ ?_; (simp; done)) | (with_reducible refine One.alloc ?_ _) | (with_reducible refine One.drew ?_) | (with_reducible refine One.drewN ?_ _) | (with_reducible refine One.other ?_ (by first | (simp; done) | (simp; omega) | omega) _) | (with_reducible refine One.up ?_ (by with_reducible assumption)) | (with_reducible refine One.chg ?_ (by with_reducible assumption) (by first | (simp; done) | (simp; omega))))))).mono ?_); rintro X w1 ⟨rfl, ho, hC⟩; rw [HD.out] at ho ⊢; have hk := hC.cells.1; have hf := hC.cells.2; have hoc := ho.cell; have hof := ho.free; have hz := hC.size))
        | (go_at_call 54; ((with_reducible refine (Mat.sub_calls (w.heap.size + 1) _ _ _ _ ho).mono ?_); rintro X w1 ⟨rfl, ho2, hc2⟩; rw [HF.out] at ho2 ⊢; replace hC := hC.call hc2 (fun x hx => Or.inl hx); replace ho := ho2; replace hk := hC.cells.1; replace hf := hC.cells.2; replace hoc := ho.cell; replace hof := ho.free; replace hz := hC.size; clear ho2 hc2))
        | (go_at_call 56; ((with_reducible refine (Fix.sqrt_calls _ _).mono ?_); rintro X w2 ⟨rfl, rfl⟩))
        | (go_at_call 55; ((with_reducible refine (Mat.took_calls (w.heap.size + 1) _ _ _ _ ho).mono ?_); rintro X w1 ⟨rfl, ho2, hc2⟩; replace hC := hC.call hc2 (fun x hx => Or.inl hx); replace ho := ho2; rw [HK.out] at ho; replace hk := hC.cells.1; replace hf := hC.cells.2; replace hoc := ho.cell; replace hof := ho.free; replace hz := hC.size; clear ho2 hc2)))
      go_returns
      exact ⟨rfl, Chg.up (by (repeat' (first | (with_reducible exact Chg.refl _ _) | (with_reducible assumption) | (with_reducible refine Chg.alloc ?_ _) | (with_reducible refine Chg.drew ?_) | (with_reducible refine Chg.drewN ?_ _) | (with_reducible refine Chg.setCell ?_ ?_ _) | (with_reducible refine Chg.upc ?_ (by with_reducible assumption)) | (with_reducible refine Chg.call ?_ (by with_reducible assumption) ?_) | (refine Or.inl ?_; (simp; done)) | (simp; done) | (simp; omega) | omega)))⟩
    · rw [hS, if_neg h0]
      have hb : (K != 0) = true := by simpa using h0
      clear hS hd h0
      go_enter Try.func43, Try.ntmps43
      go_wp2_with (first
        | (go_at_call 53; ((with_reducible refine (Mat.det_calls (w.heap.size + 1) 0 m0 m1 m2 m3 m4 m5 _ (by (repeat' (first | (with_reducible assumption) | (with_reducible refine One.at _ _ ?_; (simp; done)) | (with_reducible refine One.alloc ?_ _) | (with_reducible refine One.drew ?_) | (with_reducible refine One.drewN ?_ _) | (with_reducible refine One.other ?_ (by first | (simp; done) | (simp; omega) | omega) _) | (with_reducible refine One.up ?_ (by with_reducible assumption)) | (with_reducible refine One.chg ?_ (by with_reducible assumption) (by first | (simp; done) | (simp; omega))))))).mono ?_); rintro X w1 ⟨rfl, ho, hC⟩; rw [HD.out] at ho ⊢; have hk := hC.cells.1; have hf := hC.cells.2; have hoc := ho.cell; have hof := ho.free; have hz := hC.size))
        | (go_at_call 54; ((with_reducible refine (Mat.sub_calls (w.heap.size + 1) _ _ _ _ ho).mono ?_); rintro X w1 ⟨rfl, ho2, hc2⟩; rw [HF.out] at ho2 ⊢; replace hC := hC.call hc2 (fun x hx => Or.inl hx); replace ho := ho2; replace hk := hC.cells.1; replace hf := hC.cells.2; replace hoc := ho.cell; replace hof := ho.free; replace hz := hC.size; clear ho2 hc2))
        | (go_at_call 56; ((with_reducible refine (Fix.sqrt_calls _ _).mono ?_); rintro X w2 ⟨rfl, rfl⟩))
        | (go_at_call 55; ((with_reducible refine (Mat.took_calls (w.heap.size + 1) _ _ _ _ ho).mono ?_); rintro X w1 ⟨rfl, ho2, hc2⟩; replace hC := hC.call hc2 (fun x hx => Or.inl hx); replace ho := ho2; rw [HK.out] at ho; replace hk := hC.cells.1; replace hf := hC.cells.2; replace hoc := ho.cell; replace hof := ho.free; replace hz := hC.size; clear ho2 hc2)))
      go_quiet (fail)
      go_wp2
      go_returns
      exact ⟨rfl, Chg.up (by (repeat' (first | (with_reducible exact Chg.refl _ _) | (with_reducible assumption) | (with_reducible refine Chg.alloc ?_ _) | (with_reducible refine Chg.drew ?_) | (with_reducible refine Chg.drewN ?_ _) | (with_reducible refine Chg.setCell ?_ ?_ _) | (with_reducible refine Chg.upc ?_ (by with_reducible assumption)) | (with_reducible refine Chg.call ?_ (by with_reducible assumption) ?_) | (refine Or.inl ?_; (simp; done)) | (simp; done) | (simp; omega) | omega)))⟩
  · rw [if_neg hd] at hS
    obtain ⟨K, hK⟩ : ∃ K, (keep e (sqrt (max d 0)).2) = K := ⟨_, rfl⟩
    have HK := Lib.hid hK
    rw [hK] at hS
    clear hK
    have hdb : decide (d < 0) = false := by simpa using hd
    by_cases h0 : K = 0
    · subst h0
      rw [hS, if_pos rfl]
      clear hS hd
      go_enter Try.func43, Try.ntmps43
      go_wp2_with (first
        | (go_at_call 53; ((with_reducible refine (Mat.det_calls (w.heap.size + 1) 0 m0 m1 m2 m3 m4 m5 _ (by (repeat' (first | (with_reducible assumption) | (with_reducible refine One.at _ _ ?_; (simp; done)) | (with_reducible refine One.alloc ?_ _) | (with_reducible refine One.drew ?_) | (with_reducible refine One.drewN ?_ _) | (with_reducible refine One.other ?_ (by first | (simp; done) | (simp; omega) | omega) _) | (with_reducible refine One.up ?_ (by with_reducible assumption)) | (with_reducible refine One.chg ?_ (by with_reducible assumption) (by first | (simp; done) | (simp; omega))))))).mono ?_); rintro X w1 ⟨rfl, ho, hC⟩; rw [HD.out] at ho ⊢; have hk := hC.cells.1; have hf := hC.cells.2; have hoc := ho.cell; have hof := ho.free; have hz := hC.size))
        | (go_at_call 56; ((with_reducible refine (Fix.sqrt_calls _ _).mono ?_); rintro X w2 ⟨rfl, rfl⟩))
        | (go_at_call 55; ((with_reducible refine (Mat.took_calls (w.heap.size + 1) _ _ _ _ ho).mono ?_); rintro X w1 ⟨rfl, ho2, hc2⟩; replace hC := hC.call hc2 (fun x hx => Or.inl hx); replace ho := ho2; rw [HK.out] at ho; replace hk := hC.cells.1; replace hf := hC.cells.2; replace hoc := ho.cell; replace hof := ho.free; replace hz := hC.size; clear ho2 hc2)))
      go_returns
      exact ⟨rfl, Chg.up (by (repeat' (first | (with_reducible exact Chg.refl _ _) | (with_reducible assumption) | (with_reducible refine Chg.alloc ?_ _) | (with_reducible refine Chg.drew ?_) | (with_reducible refine Chg.drewN ?_ _) | (with_reducible refine Chg.setCell ?_ ?_ _) | (with_reducible refine Chg.upc ?_ (by with_reducible assumption)) | (with_reducible refine Chg.call ?_ (by with_reducible assumption) ?_) | (refine Or.inl ?_; (simp; done)) | (simp; done) | (simp; omega) | omega)))⟩
    · rw [hS, if_neg h0]
      have hb : (K != 0) = true := by simpa using h0
      clear hS hd h0
      go_enter Try.func43, Try.ntmps43
      go_wp2_with (first
        | (go_at_call 53; ((with_reducible refine (Mat.det_calls (w.heap.size + 1) 0 m0 m1 m2 m3 m4 m5 _ (by (repeat' (first | (with_reducible assumption) | (with_reducible refine One.at _ _ ?_; (simp; done)) | (with_reducible refine One.alloc ?_ _) | (with_reducible refine One.drew ?_) | (with_reducible refine One.drewN ?_ _) | (with_reducible refine One.other ?_ (by first | (simp; done) | (simp; omega) | omega) _) | (with_reducible refine One.up ?_ (by with_reducible assumption)) | (with_reducible refine One.chg ?_ (by with_reducible assumption) (by first | (simp; done) | (simp; omega))))))).mono ?_); rintro X w1 ⟨rfl, ho, hC⟩; rw [HD.out] at ho ⊢; have hk := hC.cells.1; have hf := hC.cells.2; have hoc := ho.cell; have hof := ho.free; have hz := hC.size))
        | (go_at_call 56; ((with_reducible refine (Fix.sqrt_calls _ _).mono ?_); rintro X w2 ⟨rfl, rfl⟩))
        | (go_at_call 55; ((with_reducible refine (Mat.took_calls (w.heap.size + 1) _ _ _ _ ho).mono ?_); rintro X w1 ⟨rfl, ho2, hc2⟩; replace hC := hC.call hc2 (fun x hx => Or.inl hx); replace ho := ho2; rw [HK.out] at ho; replace hk := hC.cells.1; replace hf := hC.cells.2; replace hoc := ho.cell; replace hof := ho.free; replace hz := hC.size; clear ho2 hc2)))
      go_quiet (fail)
      go_wp2
      go_returns
      exact ⟨rfl, Chg.up (by (repeat' (first | (with_reducible exact Chg.refl _ _) | (with_reducible assumption) | (with_reducible refine Chg.alloc ?_ _) | (with_reducible refine Chg.drew ?_) | (with_reducible refine Chg.drewN ?_ _) | (with_reducible refine Chg.setCell ?_ ?_ _) | (with_reducible refine Chg.upc ?_ (by with_reducible assumption)) | (with_reducible refine Chg.call ?_ (by with_reducible assumption) ?_) | (refine Or.inl ?_; (simp; done)) | (simp; done) | (simp; omega) | omega)))⟩

end Go.Proofs.Yteddlahklilncaa.Mat3
