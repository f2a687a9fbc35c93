/- Line, Curve, Close, and what a nil path returns. -/
import Derived.Test.YteddlahklilncaaPathW4
namespace Go.Proofs.Yteddlahklilncaa.Path
open Go.ChangeShapes Go.WideShapes Go.ChangeAt Go.RowKit
open Go.Proofs.Yteddlahklilncaa.FixM (fits)
open Go.Proofs.Yteddlahklilncaa.PathM
set_option linter.unusedVariables false
set_option linter.unusedSimpArgs false

theorem pts1 {w : World} {g : Nat} {x y : Int} (h : Row w g #[.int .i64 x, .int .i64 y]) : Pts w g 0 [(x, y)] := fun i p hp => by
  match i, hp with
  | 0, hp =>
    simp at hp
    subst hp
    exact ⟨h.cell 0 rfl, h.cell 1 rfl⟩
theorem pts3 {w : World} {g : Nat} {a b c d e f : Int} (h : Row w g #[.int .i64 a, .int .i64 b, .int .i64 c, .int .i64 d, .int .i64 e, .int .i64 f]) : Pts w g 0 [(a, b), (c, d), (e, f)] := fun i p hp => by
  match i, hp with
  | 0, hp =>
    simp at hp
    subst hp
    exact ⟨h.cell 0 rfl, h.cell 1 rfl⟩
  | 1, hp =>
    simp at hp
    subst hp
    exact ⟨h.cell 2 rfl, h.cell 3 rfl⟩
  | 2, hp =>
    simp at hp
    subst hp
    exact ⟨h.cell 4 rfl, h.cell 5 rfl⟩
theorem fits_calls2 (l : List Pt) (m g c : Nat) (cs : Array Value) (w : World) (hm : l.length = m) (hl : m ≤ 1000000000) (h : Row w g cs) (hp : Row w g cs → Pts w g 0 l) :
    Calls Try.prog 26 #[.slice (some ⟨g, 0, none⟩) m c] w fun e w' => e = .returned (.bool (l.all fitsP)) ∧ Up w w' := by
  subst hm
  exact fits_calls l g 0 c w hl (hp h) h.lt

set_option maxHeartbeats 1000000 in
theorem line_calls (b : Nat) (v : Value) (t : St) (x y : Int) (w : World) (h : PathIs w b v t) (hlen : t.l.length + 2 ≤ 100000000) :
    Calls Try.prog 12 #[.pointer (some ⟨b, 0, none⟩), .agg #[.int .i64 x, .int .i64 y]] w fun E w' => E = .returned (.int .i64 (t.line (x, y)).2) ∧ Left w b v (t.line (x, y)).1 w' := by
  have HP := Lib.hid h
  have hlt := h.row.lt
  clear h
  by_cases hf : [(x, y)].all fitsP = true
  · have HF := Lib.hid hf
    have H := Lib.hid (show t.line (x, y) = t.draw ⟨2, (x, y), (0, 0), (0, 0)⟩ (x, y) by
      unfold St.line
      rw [if_pos (by simpa using hf)]
      all_goals rfl)
    clear hf
    go_enter Try.func12, Try.ntmps12
    go_wp2_with (first
      | (go_at_call 26; ((with_reducible refine (fits_calls2 [(x, y)] 1 (w.heap.size + 1) 1 #[.int .i64 x, .int .i64 y] _ rfl (by decide) (by (repeat' (first | (with_reducible assumption) | (with_reducible refine Row.at _ _ ?_; (simp; done)) | (with_reducible refine Row.alloc ?_ _) | (with_reducible refine Row.drew ?_) | (with_reducible refine Row.drewN ?_ _) | (with_reducible refine Row.other ?_ (by first | (simp; done) | (simp; omega) | omega) _) | (with_reducible refine Row.up ?_ (by with_reducible assumption)) | (with_reducible refine Row.chg ?_ (by with_reducible assumption) (by first | (simp; done) | (simp; omega)))))) pts1).mono ?_); rintro E w1 ⟨rfl, hu1⟩; rw [HF.out]; have hz1 := hu1.size; simp at hz1; have r0 : Row w1 (w.heap.size) #[.int .i64 x, .int .i64 y] := Row.up (by (repeat' (first | (with_reducible assumption) | (with_reducible refine Row.at _ _ ?_; (simp; done)) | (with_reducible refine Row.alloc ?_ _) | (with_reducible refine Row.drew ?_) | (with_reducible refine Row.drewN ?_ _) | (with_reducible refine Row.other ?_ (by first | (simp; done) | (simp; omega) | omega) _) | (with_reducible refine Row.up ?_ (by with_reducible assumption)) | (with_reducible refine Row.chg ?_ (by with_reducible assumption) (by first | (simp; done) | (simp; omega)))))) hu1; have q00 : w1.cell? ⟨w.heap.size, 0, none⟩ = some (.int .i64 x) := r0.cell 0 rfl; have q01 : w1.cell? ⟨w.heap.size, 1, none⟩ = some (.int .i64 y) := r0.cell 1 rfl))
      | (go_at_call 29; ((with_reducible refine (draw_calls b v t 2 x y 0 0 0 0 x y _ (HP.out.up (by (repeat' (first | (with_reducible exact Up.refl _) | (with_reducible assumption) | (with_reducible refine Up.alloc ?_ _) | (with_reducible refine Up.drew ?_) | (with_reducible refine Up.drewN ?_ _) | (with_reducible refine Up.setCell ?_ ?_ _) | (with_reducible refine Up.call ?_ (by with_reducible assumption)) | go_size)))) hlen).mono ?_); rintro E w2 ⟨rfl, hleft⟩; have HLF := Lib.hid hleft; clear hleft)))
    go_ret
    exact ⟨by rw [H.out]; rfl, by rw [H.out]; exact Left.of_up (by (repeat' (first | (with_reducible exact Up.refl _) | (with_reducible assumption) | (with_reducible refine Up.alloc ?_ _) | (with_reducible refine Up.drew ?_) | (with_reducible refine Up.drewN ?_ _) | (with_reducible refine Up.setCell ?_ ?_ _) | (with_reducible refine Up.call ?_ (by with_reducible assumption)) | go_size))) HLF.out⟩
  · have HF := Lib.hid (show [(x, y)].all fitsP = false by simpa using hf)
    have H := Lib.hid (show t.line (x, y) = (t, 11) by
      unfold St.line
      rw [if_neg (by simpa using hf)])
    clear hf
    go_enter Try.func12, Try.ntmps12
    go_wp2_with (go_at_call 26; ((with_reducible refine (fits_calls2 [(x, y)] 1 (w.heap.size + 1) 1 #[.int .i64 x, .int .i64 y] _ rfl (by decide) (by (repeat' (first | (with_reducible assumption) | (with_reducible refine Row.at _ _ ?_; (simp; done)) | (with_reducible refine Row.alloc ?_ _) | (with_reducible refine Row.drew ?_) | (with_reducible refine Row.drewN ?_ _) | (with_reducible refine Row.other ?_ (by first | (simp; done) | (simp; omega) | omega) _) | (with_reducible refine Row.up ?_ (by with_reducible assumption)) | (with_reducible refine Row.chg ?_ (by with_reducible assumption) (by first | (simp; done) | (simp; omega)))))) pts1).mono ?_); rintro E w1 ⟨rfl, hu1⟩; rw [HF.out]; have hz1 := hu1.size; simp at hz1; have r0 : Row w1 (w.heap.size) #[.int .i64 x, .int .i64 y] := Row.up (by (repeat' (first | (with_reducible assumption) | (with_reducible refine Row.at _ _ ?_; (simp; done)) | (with_reducible refine Row.alloc ?_ _) | (with_reducible refine Row.drew ?_) | (with_reducible refine Row.drewN ?_ _) | (with_reducible refine Row.other ?_ (by first | (simp; done) | (simp; omega) | omega) _) | (with_reducible refine Row.up ?_ (by with_reducible assumption)) | (with_reducible refine Row.chg ?_ (by with_reducible assumption) (by first | (simp; done) | (simp; omega)))))) hu1; have q00 : w1.cell? ⟨w.heap.size, 0, none⟩ = some (.int .i64 x) := r0.cell 0 rfl; have q01 : w1.cell? ⟨w.heap.size, 1, none⟩ = some (.int .i64 y) := r0.cell 1 rfl))
    go_ret
    exact ⟨by rw [H.out]; rfl, by rw [H.out]; exact Left.same (by (repeat' (first | (with_reducible exact Up.refl _) | (with_reducible assumption) | (with_reducible refine Up.alloc ?_ _) | (with_reducible refine Up.drew ?_) | (with_reducible refine Up.drewN ?_ _) | (with_reducible refine Up.setCell ?_ ?_ _) | (with_reducible refine Up.call ?_ (by with_reducible assumption)) | go_size))) HP.out⟩

theorem line_nil (x y : Int) (w : World) :
    Calls Try.prog 12 #[.pointer none, .agg #[.int .i64 x, .int .i64 y]] w fun E w' => E = .returned (.int .i64 21) ∧ Up w w' := by
  go_enter Try.func12, Try.ntmps12
  go_wp2
  go_ret
  exact ⟨rfl, by (repeat' (first | (with_reducible exact Up.refl _) | (with_reducible assumption) | (with_reducible refine Up.alloc ?_ _) | (with_reducible refine Up.drew ?_) | (with_reducible refine Up.drewN ?_ _) | (with_reducible refine Up.setCell ?_ ?_ _) | (with_reducible refine Up.call ?_ (by with_reducible assumption)) | go_size))⟩

end Go.Proofs.Yteddlahklilncaa.Path
