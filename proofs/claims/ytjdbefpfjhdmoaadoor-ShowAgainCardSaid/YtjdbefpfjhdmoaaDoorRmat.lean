/- What the reference's functions on matrices return, each over all numbers. No condition. -/
import Derived.Test.YtjdbefpfjhdmoaaDoorMat
import Derived.Test.YtjdbefpfjhdmoaaDoorRfix2
namespace Go.Proofs.YtjdbefpfjhdmoaaDoor.Rmat
open Go.ChangeShapes Go.WideShapes Go.ChangeAt Go.RowKit
open Go.Proofs.YtjdbefpfjhdmoaaDoor.FixM (fits mul div sub add sum)
open Go.Proofs.YtjdbefpfjhdmoaaDoor.MatM
set_option linter.unusedVariables false
set_option linter.unusedSimpArgs false

theorem took_calls (b : Nat) (e0 n e : Int) (w : World) (hs : One w b (.int .i64 e0)) :
    Calls Tryd.prog 80 #[.pointer (some ⟨b, 0, none⟩), .int .i64 n, .int .i64 e] w fun E w' => E = .returned (.int .i64 n) ∧ One w' b (.int .i64 (keep e0 e)) ∧ Chg [b] w w' := by
  have HS := Lib.hid hs
  have hc := hs.cell
  have hf := hs.free
  clear hs
  by_cases h0 : e0 = 0
  · subst h0
    have H := Lib.hid (show keep 0 e = e from keep0 e)
    go_enter Tryd.func80, Tryd.ntmps80
    go_wp2
    go_ret
    exact ⟨rfl, by rw [H.out]; exact HS.out.set _, by (repeat' (first | (with_reducible exact Chg.refl _ _) | (with_reducible assumption) | (with_reducible refine Chg.alloc ?_ _) | (with_reducible refine Chg.drew ?_) | (with_reducible refine Chg.drewN ?_ _) | (with_reducible refine Chg.setCell ?_ ?_ _) | (with_reducible refine Chg.upc ?_ (by with_reducible assumption)) | (with_reducible refine Chg.call ?_ (by with_reducible assumption) ?_) | (refine Or.inl ?_; (simp; done)) | (simp; done) | (simp; omega) | omega))⟩
  · have hb : (e0 == 0) = false := by simpa using h0
    have H := Lib.hid (show keep e0 e = e0 by simp [keep, h0])
    clear h0
    go_enter Tryd.func80, Tryd.ntmps80
    go_wp2
    go_ret
    exact ⟨rfl, by rw [H.out]; exact HS.out, by (repeat' (first | (with_reducible exact Chg.refl _ _) | (with_reducible assumption) | (with_reducible refine Chg.alloc ?_ _) | (with_reducible refine Chg.drew ?_) | (with_reducible refine Chg.drewN ?_ _) | (with_reducible refine Chg.setCell ?_ ?_ _) | (with_reducible refine Chg.upc ?_ (by with_reducible assumption)) | (with_reducible refine Chg.call ?_ (by with_reducible assumption) ?_) | (refine Or.inl ?_; (simp; done)) | (simp; done) | (simp; omega) | omega))⟩

theorem mul_calls (b : Nat) (e0 x y : Int) (w : World) (hs : One w b (.int .i64 e0)) :
    Calls Tryd.prog 57 #[.pointer (some ⟨b, 0, none⟩), .int .i64 x, .int .i64 y] w fun E w' => E = .returned (.int .i64 (mul x y).1) ∧ One w' b (.int .i64 (keep e0 (mul x y).2)) ∧ Chg [b] w w' := by
  have HS := Lib.hid hs
  clear hs
  go_enter Tryd.func57, Tryd.ntmps57
  go_wp2_with (first
    | (go_at_call 79; ((with_reducible refine (Rfix.mul_calls _ _ _).mono ?_); rintro E w1 ⟨rfl, hu1⟩))
    | (go_at_call 80; ((with_reducible refine (took_calls b e0 _ _ _ (HS.out.up (by assumption))).mono ?_); rintro E w2 ⟨rfl, ho, hc⟩)))
  go_ret
  exact ⟨rfl, by assumption, by (repeat' (first | (with_reducible exact Chg.refl _ _) | (with_reducible assumption) | (with_reducible refine Chg.alloc ?_ _) | (with_reducible refine Chg.drew ?_) | (with_reducible refine Chg.drewN ?_ _) | (with_reducible refine Chg.setCell ?_ ?_ _) | (with_reducible refine Chg.upc ?_ (by with_reducible assumption)) | (with_reducible refine Chg.call ?_ (by with_reducible assumption) ?_) | (refine Or.inl ?_; (simp; done)) | (simp; done) | (simp; omega) | omega))⟩

theorem add_calls (b : Nat) (e0 x y : Int) (w : World) (hs : One w b (.int .i64 e0)) :
    Calls Tryd.prog 58 #[.pointer (some ⟨b, 0, none⟩), .int .i64 x, .int .i64 y] w fun E w' => E = .returned (.int .i64 (add x y).1) ∧ One w' b (.int .i64 (keep e0 (add x y).2)) ∧ Chg [b] w w' := by
  have HS := Lib.hid hs
  clear hs
  go_enter Tryd.func58, Tryd.ntmps58
  go_wp2_with (first
    | (go_at_call 81; ((with_reducible refine (Rfix.add_calls _ _ _).mono ?_); rintro E w1 ⟨rfl, hu1⟩))
    | (go_at_call 80; ((with_reducible refine (took_calls b e0 _ _ _ (HS.out.up (by assumption))).mono ?_); rintro E w2 ⟨rfl, ho, hc⟩)))
  go_ret
  exact ⟨rfl, by assumption, by (repeat' (first | (with_reducible exact Chg.refl _ _) | (with_reducible assumption) | (with_reducible refine Chg.alloc ?_ _) | (with_reducible refine Chg.drew ?_) | (with_reducible refine Chg.drewN ?_ _) | (with_reducible refine Chg.setCell ?_ ?_ _) | (with_reducible refine Chg.upc ?_ (by with_reducible assumption)) | (with_reducible refine Chg.call ?_ (by with_reducible assumption) ?_) | (refine Or.inl ?_; (simp; done)) | (simp; done) | (simp; omega) | omega))⟩

set_option maxHeartbeats 1000000 in
theorem delta_calls (m0 m1 m2 m3 m4 m5 x y : Int) (w : World) :
    Calls Tryd.prog 32 #[.agg #[.int .i64 m0, .int .i64 m1, .int .i64 m2, .int .i64 m3, .int .i64 m4, .int .i64 m5], .agg #[.int .i64 x, .int .i64 y]] w fun E w' => E = .returned (.tuple #[.agg #[.int .i64 (delta m0 m1 m2 m3 x y).1.1, .int .i64 (delta m0 m1 m2 m3 x y).1.2], .int .i64 (delta m0 m1 m2 m3 x y).2]) ∧ Up w w' := by
  obtain ⟨X, hX⟩ : ∃ X, (two2 0 m0 x m2 y).1 = X := ⟨_, rfl⟩
  obtain ⟨Y, hY⟩ : ∃ X, (two2 (two2 0 m0 x m2 y).2 m1 x m3 y).1 = X := ⟨_, rfl⟩
  obtain ⟨E, hE⟩ : ∃ X, (two2 (two2 0 m0 x m2 y).2 m1 x m3 y).2 = X := ⟨_, rfl⟩
  have hS : delta m0 m1 m2 m3 x y = pt X Y E := by rw [← delta_eq, ← hX, ← hY, ← hE]; rfl
  rw [hS]
  dsimp only [two2] at hX hY hE
  clear hS
  by_cases h0 : E = 0
  · have hP : pt X Y E = ((X, Y), 0) := by rw [pt, if_pos h0]
    rw [hP]
    clear hP
    have hb : (E != 0) = false := by simpa using h0
    clear h0
    go_enter Tryd.func32, Tryd.ntmps32
    go_wp2_with (first
    | (go_at_call 57; ((with_reducible refine (mul_calls (w.heap.size + 3) _ _ _ _ ho).mono ?_); rintro E w1 ⟨rfl, ho2, hc2⟩; replace hC := hC.call hc2 (fun x hx => Or.inl hx); replace ho := ho2; replace hk := hC.cells.1; replace hf := hC.cells.2; replace hoc := ho.cell; replace hof := ho.free; replace hz := hC.size; clear ho2 hc2))
    | (go_at_call 57; ((with_reducible refine (mul_calls (w.heap.size + 3) 0 _ _ _ (by (repeat' (first | (with_reducible assumption) | (with_reducible refine One.at _ _ ?_; (simp; done)) | (with_reducible refine One.alloc ?_ _) | (with_reducible refine One.drew ?_) | (with_reducible refine One.drewN ?_ _) | (with_reducible refine One.other ?_ (by first | (simp; done) | (simp; omega) | omega) _) | (with_reducible refine One.up ?_ (by with_reducible assumption)) | (with_reducible refine One.chg ?_ (by with_reducible assumption) (by first | (simp; done) | (simp; omega))))))).mono ?_); rintro E w1 ⟨rfl, ho, hC⟩; have hk := hC.cells.1; have hf := hC.cells.2; have hoc := ho.cell; have hof := ho.free; have hz := hC.size))
    | (go_at_call 58; ((with_reducible refine (add_calls (w.heap.size + 3) _ _ _ _ ho).mono ?_); rintro E w1 ⟨rfl, ho2, hc2⟩; replace hC := hC.call hc2 (fun x hx => Or.inl hx); replace ho := ho2; replace hk := hC.cells.1; replace hf := hC.cells.2; replace hoc := ho.cell; replace hof := ho.free; replace hz := hC.size; clear ho2 hc2))
    | (go_at_call 58; ((with_reducible refine (add_calls (w.heap.size + 3) 0 _ _ _ (by (repeat' (first | (with_reducible assumption) | (with_reducible refine One.at _ _ ?_; (simp; done)) | (with_reducible refine One.alloc ?_ _) | (with_reducible refine One.drew ?_) | (with_reducible refine One.drewN ?_ _) | (with_reducible refine One.other ?_ (by first | (simp; done) | (simp; omega) | omega) _) | (with_reducible refine One.up ?_ (by with_reducible assumption)) | (with_reducible refine One.chg ?_ (by with_reducible assumption) (by first | (simp; done) | (simp; omega))))))).mono ?_); rintro E w1 ⟨rfl, ho, hC⟩; have hk := hC.cells.1; have hf := hC.cells.2; have hoc := ho.cell; have hof := ho.free; have hz := hC.size)))
    have hr : Row _ (w.heap.size + 2) #[.int .i64 0, .int .i64 0] := Row.chg (by (repeat' (first | (with_reducible assumption) | (with_reducible refine Row.at _ _ ?_; (simp; done)) | (with_reducible refine Row.alloc ?_ _) | (with_reducible refine Row.drew ?_) | (with_reducible refine Row.drewN ?_ _) | (with_reducible refine Row.other ?_ (by first | (simp; done) | (simp; omega) | omega) _) | (with_reducible refine Row.up ?_ (by with_reducible assumption)) | (with_reducible refine Row.chg ?_ (by with_reducible assumption) (by first | (simp; done) | (simp; omega)))))) hC (by simp)
    have q0 := hr.cell 0 rfl
    have q1 := hr.cell 1 rfl
    have f0 := hr.free 0
    have f1 := hr.free 1
    exact bodyPost_ret (v := .tuple #[.agg #[.int .i64 X, .int .i64 Y], .int .i64 0]) (by simp [results, Tryd.results32, go_sem, q0, q1, f0, f1]) rfl ⟨rfl, Chg.up (by (repeat' (first | (with_reducible exact Chg.refl _ _) | (with_reducible assumption) | (with_reducible refine Chg.alloc ?_ _) | (with_reducible refine Chg.drew ?_) | (with_reducible refine Chg.drewN ?_ _) | (with_reducible refine Chg.setCell ?_ ?_ _) | (with_reducible refine Chg.upc ?_ (by with_reducible assumption)) | (with_reducible refine Chg.call ?_ (by with_reducible assumption) ?_) | (refine Or.inl ?_; (simp; done)) | (simp; done) | (simp; omega) | omega)))⟩
  · have hP : pt X Y E = ((0, 0), E) := by rw [pt, if_neg h0]
    rw [hP]
    clear hP
    have hb : (E != 0) = true := by simpa using h0
    clear h0
    go_enter Tryd.func32, Tryd.ntmps32
    go_wp2_with (first
    | (go_at_call 57; ((with_reducible refine (mul_calls (w.heap.size + 3) _ _ _ _ ho).mono ?_); rintro E w1 ⟨rfl, ho2, hc2⟩; replace hC := hC.call hc2 (fun x hx => Or.inl hx); replace ho := ho2; replace hk := hC.cells.1; replace hf := hC.cells.2; replace hoc := ho.cell; replace hof := ho.free; replace hz := hC.size; clear ho2 hc2))
    | (go_at_call 57; ((with_reducible refine (mul_calls (w.heap.size + 3) 0 _ _ _ (by (repeat' (first | (with_reducible assumption) | (with_reducible refine One.at _ _ ?_; (simp; done)) | (with_reducible refine One.alloc ?_ _) | (with_reducible refine One.drew ?_) | (with_reducible refine One.drewN ?_ _) | (with_reducible refine One.other ?_ (by first | (simp; done) | (simp; omega) | omega) _) | (with_reducible refine One.up ?_ (by with_reducible assumption)) | (with_reducible refine One.chg ?_ (by with_reducible assumption) (by first | (simp; done) | (simp; omega))))))).mono ?_); rintro E w1 ⟨rfl, ho, hC⟩; have hk := hC.cells.1; have hf := hC.cells.2; have hoc := ho.cell; have hof := ho.free; have hz := hC.size))
    | (go_at_call 58; ((with_reducible refine (add_calls (w.heap.size + 3) _ _ _ _ ho).mono ?_); rintro E w1 ⟨rfl, ho2, hc2⟩; replace hC := hC.call hc2 (fun x hx => Or.inl hx); replace ho := ho2; replace hk := hC.cells.1; replace hf := hC.cells.2; replace hoc := ho.cell; replace hof := ho.free; replace hz := hC.size; clear ho2 hc2))
    | (go_at_call 58; ((with_reducible refine (add_calls (w.heap.size + 3) 0 _ _ _ (by (repeat' (first | (with_reducible assumption) | (with_reducible refine One.at _ _ ?_; (simp; done)) | (with_reducible refine One.alloc ?_ _) | (with_reducible refine One.drew ?_) | (with_reducible refine One.drewN ?_ _) | (with_reducible refine One.other ?_ (by first | (simp; done) | (simp; omega) | omega) _) | (with_reducible refine One.up ?_ (by with_reducible assumption)) | (with_reducible refine One.chg ?_ (by with_reducible assumption) (by first | (simp; done) | (simp; omega))))))).mono ?_); rintro E w1 ⟨rfl, ho, hC⟩; have hk := hC.cells.1; have hf := hC.cells.2; have hoc := ho.cell; have hof := ho.free; have hz := hC.size)))
    have hr : Row _ (w.heap.size + 2) #[.int .i64 0, .int .i64 0] := Row.chg (by (repeat' (first | (with_reducible assumption) | (with_reducible refine Row.at _ _ ?_; (simp; done)) | (with_reducible refine Row.alloc ?_ _) | (with_reducible refine Row.drew ?_) | (with_reducible refine Row.drewN ?_ _) | (with_reducible refine Row.other ?_ (by first | (simp; done) | (simp; omega) | omega) _) | (with_reducible refine Row.up ?_ (by with_reducible assumption)) | (with_reducible refine Row.chg ?_ (by with_reducible assumption) (by first | (simp; done) | (simp; omega)))))) hC (by simp)
    have q0 := hr.cell 0 rfl
    have q1 := hr.cell 1 rfl
    have f0 := hr.free 0
    have f1 := hr.free 1
    go_region
    all_goals go_wp2
    all_goals exact bodyPost_ret (v := .tuple #[.agg #[.int .i64 0, .int .i64 0], .int .i64 E]) (by simp [results, Tryd.results32, go_sem, q0, q1, f0, f1]) rfl ⟨rfl, Chg.up (by (repeat' (first | (with_reducible exact Chg.refl _ _) | (with_reducible assumption) | (with_reducible refine Chg.alloc ?_ _) | (with_reducible refine Chg.drew ?_) | (with_reducible refine Chg.drewN ?_ _) | (with_reducible refine Chg.setCell ?_ ?_ _) | (with_reducible refine Chg.upc ?_ (by with_reducible assumption)) | (with_reducible refine Chg.call ?_ (by with_reducible assumption) ?_) | (refine Or.inl ?_; (simp; done)) | (simp; done) | (simp; omega) | omega)))⟩

end Go.Proofs.YtjdbefpfjhdmoaaDoor.Rmat
