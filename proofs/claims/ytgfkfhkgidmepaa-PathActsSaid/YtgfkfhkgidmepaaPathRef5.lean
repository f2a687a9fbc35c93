/- The reference's path: Line, Curve. -/
import Derived.Test.YtgfkfhkgidmepaaPathRef4
namespace Go.Proofs.Ytgfkfhkgidmepaa.Path
open Go.ChangeShapes Go.WideShapes Go.ChangeAt Go.RowKit
open Go.Proofs.Ytgfkfhkgidmepaa.PathM
set_option linter.unusedVariables false
set_option linter.unusedSimpArgs false

theorem RLeft.of_up {w w1 w2 : World} {b : Nat} {v : Value} {most : Int} {l : List Seg} (hu : Up w w1) (h : RLeft w1 b v most l w2) : RLeft w b v most l w2 := by
  obtain ⟨v', h1, h2, h3⟩ := h
  exact ⟨v', h1, (Chg.of_up hu).call h2 (fun x hx => Or.inl hx), fun g hg => (h3 g hg).imp id (fun h => Nat.le_trans hu.size h)⟩
theorem lLine_fits {most : Int} {l : List Seg} {a : Pt} (h : fitsP a = true) : lLine most l a = lDraw most l ⟨2, a, Z, Z⟩ := by
  unfold lLine St.line
  rw [if_pos h]
  obtain ⟨e1, e2⟩ := draw_to (stOf most l) ⟨2, a, Z, Z⟩ a
  rw [e1, e2]
  rfl
theorem lCurve_fits {most : Int} {l : List Seg} {a b c : Pt} (h : (fitsP a && (fitsP b && fitsP c)) = true) : lCurve most l a b c = lDraw most l ⟨3, a, b, c⟩ := by
  unfold lCurve St.curve
  rw [if_pos h]
  obtain ⟨e1, e2⟩ := draw_to (stOf most l) ⟨3, a, b, c⟩ c
  rw [e1, e2]
  rfl

set_option maxRecDepth 8000 in
set_option maxHeartbeats 1000000 in
theorem rline_calls (b : Nat) (v : Value) (most : Int) (l : List Seg) (x y : Int) (w : World) (h : RefIs w b v most l) (hk0 : lastK l = 0 → l = []) (hlen : l.length ≤ 1000000) :
    Calls Try.prog 35 #[.pointer (some ⟨b, 0, none⟩), .agg #[.int .i64 x, .int .i64 y]] w fun E w' => E = .returned (.int .i64 (lLine most l (x, y)).2) ∧ RLeft w b v most (lLine most l (x, y)).1 w' := by
  have HR := Lib.hid h
  have HK := Lib.hid hk0
  clear h hk0
  by_cases hf : fitsP (x, y) = true
  · have HF := Lib.hid hf
    have HE := Lib.hid (lLine_fits (most := most) (l := l) hf)
    clear hf
    go_enter Try.func35, Try.ntmps35
    go_wp2_with (first
      | (go_at_call 18; ((with_reducible refine (fitsPoint_calls _ _ _).mono ?_); rintro E w1 ⟨rfl, rfl⟩; rw [HF.out]))
      | (go_at_call 42; ((with_reducible refine (rdraw_calls b v most l 2 x y 0 0 0 0 _ (HR.out.up (by (repeat' (first | (with_reducible exact Up.refl _) | (with_reducible assumption) | (with_reducible refine Up.alloc ?_ _) | (with_reducible refine Up.drew ?_) | (with_reducible refine Up.drewN ?_ _) | (with_reducible refine Up.setCell ?_ ?_ _) | (with_reducible refine Up.call ?_ (by with_reducible assumption)) | go_size)))) HK.out hlen).mono ?_); rintro E w2 ⟨rfl, hl⟩; have HL := Lib.hid (RLeft.of_up (show Up w _ from by (repeat' (first | (with_reducible exact Up.refl _) | (with_reducible assumption) | (with_reducible refine Up.alloc ?_ _) | (with_reducible refine Up.drew ?_) | (with_reducible refine Up.drewN ?_ _) | (with_reducible refine Up.setCell ?_ ?_ _) | (with_reducible refine Up.call ?_ (by with_reducible assumption)) | go_size))) hl); clear hl)))
    go_ret
    exact ⟨by rw [HE.out]; rfl, by rw [HE.out]; exact HL.out⟩
  · have HF := Lib.hid (show fitsP (x, y) = false by simpa using hf)
    have HE := Lib.hid (show lLine most l (x, y) = (l, 11) by unfold lLine St.line; rw [if_neg hf]; rfl)
    clear hf
    go_enter Try.func35, Try.ntmps35
    go_wp2_with (go_at_call 18; ((with_reducible refine (fitsPoint_calls _ _ _).mono ?_); rintro E w1 ⟨rfl, rfl⟩; rw [HF.out]))
    go_ret
    exact ⟨by rw [HE.out]; rfl, by rw [HE.out]; exact RLeft.same (by (repeat' (first | (with_reducible exact Up.refl _) | (with_reducible assumption) | (with_reducible refine Up.alloc ?_ _) | (with_reducible refine Up.drew ?_) | (with_reducible refine Up.drewN ?_ _) | (with_reducible refine Up.setCell ?_ ?_ _) | (with_reducible refine Up.call ?_ (by with_reducible assumption)) | go_size))) HR.out⟩

set_option maxRecDepth 8000 in
set_option maxHeartbeats 2000000 in
theorem rcurve_calls (b : Nat) (v : Value) (most : Int) (l : List Seg) (x0 y0 x1 y1 x2 y2 : Int) (w : World) (h : RefIs w b v most l) (hk0 : lastK l = 0 → l = []) (hlen : l.length ≤ 1000000) :
    Calls Try.prog 36 #[.pointer (some ⟨b, 0, none⟩), .agg #[.int .i64 x0, .int .i64 y0], .agg #[.int .i64 x1, .int .i64 y1], .agg #[.int .i64 x2, .int .i64 y2]] w fun E w' => E = .returned (.int .i64 (lCurve most l (x0, y0) (x1, y1) (x2, y2)).2) ∧ RLeft w b v most (lCurve most l (x0, y0) (x1, y1) (x2, y2)).1 w' := by
  have HR := Lib.hid h
  have HK := Lib.hid hk0
  clear h hk0
  obtain ⟨f0, hf0⟩ : ∃ f, fitsP (x0, y0) = f := ⟨_, rfl⟩
  obtain ⟨f1, hf1⟩ : ∃ f, fitsP (x1, y1) = f := ⟨_, rfl⟩
  obtain ⟨f2, hf2⟩ : ∃ f, fitsP (x2, y2) = f := ⟨_, rfl⟩
  have HG0 := Lib.hid hf0
  have HG1 := Lib.hid hf1
  have HG2 := Lib.hid hf2
  clear hf0 hf1 hf2
  by_cases hf : (f0 && (f1 && f2)) = true
  · obtain ⟨rfl, rfl, rfl⟩ : f0 = true ∧ f1 = true ∧ f2 = true := by simpa using hf
    have HE := Lib.hid (lCurve_fits (most := most) (l := l) (a := (x0, y0)) (b := (x1, y1)) (c := (x2, y2)) (by rw [HG0.out, HG1.out, HG2.out]; rfl))
    clear hf
    go_enter Try.func36, Try.ntmps36
    go_wp2_with (first
      | (go_at_call 18; ((with_reducible refine (fitsPoint_calls _ _ _).mono ?_); rintro E w1 ⟨rfl, rfl⟩; (first | rw [HG0.out] | rw [HG1.out] | rw [HG2.out])))
      | (go_at_call 42; ((with_reducible refine (rdraw_calls b v most l 3 x0 y0 x1 y1 x2 y2 _ (HR.out.up (by (repeat' (first | (with_reducible exact Up.refl _) | (with_reducible assumption) | (with_reducible refine Up.alloc ?_ _) | (with_reducible refine Up.drew ?_) | (with_reducible refine Up.drewN ?_ _) | (with_reducible refine Up.setCell ?_ ?_ _) | (with_reducible refine Up.call ?_ (by with_reducible assumption)) | go_size)))) HK.out hlen).mono ?_); rintro E w2 ⟨rfl, hl⟩; have HL := Lib.hid (RLeft.of_up (show Up w _ from by (repeat' (first | (with_reducible exact Up.refl _) | (with_reducible assumption) | (with_reducible refine Up.alloc ?_ _) | (with_reducible refine Up.drew ?_) | (with_reducible refine Up.drewN ?_ _) | (with_reducible refine Up.setCell ?_ ?_ _) | (with_reducible refine Up.call ?_ (by with_reducible assumption)) | go_size))) hl); clear hl)))
    go_ret
    exact ⟨by rw [HE.out]; rfl, by rw [HE.out]; exact HL.out⟩
  · have HE := Lib.hid (show lCurve most l (x0, y0) (x1, y1) (x2, y2) = (l, 11) by unfold lCurve St.curve; rw [HG0.out, HG1.out, HG2.out, if_neg hf]; rfl)
    cases f0
    · go_enter Try.func36, Try.ntmps36
      go_wp2_with (go_at_call 18; ((with_reducible refine (fitsPoint_calls _ _ _).mono ?_); rintro E w1 ⟨rfl, rfl⟩; (first | rw [HG0.out] | rw [HG1.out] | rw [HG2.out])))
      go_ret
      exact ⟨by rw [HE.out]; rfl, by rw [HE.out]; exact RLeft.same (by (repeat' (first | (with_reducible exact Up.refl _) | (with_reducible assumption) | (with_reducible refine Up.alloc ?_ _) | (with_reducible refine Up.drew ?_) | (with_reducible refine Up.drewN ?_ _) | (with_reducible refine Up.setCell ?_ ?_ _) | (with_reducible refine Up.call ?_ (by with_reducible assumption)) | go_size))) HR.out⟩
    · cases f1
      · go_enter Try.func36, Try.ntmps36
        go_wp2_with (go_at_call 18; ((with_reducible refine (fitsPoint_calls _ _ _).mono ?_); rintro E w1 ⟨rfl, rfl⟩; (first | rw [HG0.out] | rw [HG1.out] | rw [HG2.out])))
        go_ret
        exact ⟨by rw [HE.out]; rfl, by rw [HE.out]; exact RLeft.same (by (repeat' (first | (with_reducible exact Up.refl _) | (with_reducible assumption) | (with_reducible refine Up.alloc ?_ _) | (with_reducible refine Up.drew ?_) | (with_reducible refine Up.drewN ?_ _) | (with_reducible refine Up.setCell ?_ ?_ _) | (with_reducible refine Up.call ?_ (by with_reducible assumption)) | go_size))) HR.out⟩
      · cases f2
        · go_enter Try.func36, Try.ntmps36
          go_wp2_with (go_at_call 18; ((with_reducible refine (fitsPoint_calls _ _ _).mono ?_); rintro E w1 ⟨rfl, rfl⟩; (first | rw [HG0.out] | rw [HG1.out] | rw [HG2.out])))
          go_ret
          exact ⟨by rw [HE.out]; rfl, by rw [HE.out]; exact RLeft.same (by (repeat' (first | (with_reducible exact Up.refl _) | (with_reducible assumption) | (with_reducible refine Up.alloc ?_ _) | (with_reducible refine Up.drew ?_) | (with_reducible refine Up.drewN ?_ _) | (with_reducible refine Up.setCell ?_ ?_ _) | (with_reducible refine Up.call ?_ (by with_reducible assumption)) | go_size))) HR.out⟩
        · simp at hf

end Go.Proofs.Ytgfkfhkgidmepaa.Path
