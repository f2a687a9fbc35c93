/- Now of states that are none; law 14's call of them, by its number. No condition. -/
import Derived.Test.YtoflafbhfoncmaaDoorGsN3
import Derived.Test.YtoflafbhfoncmaaDoorGsC
namespace Go.Proofs.YtoflafbhfoncmaaDoor.Gs
open Go.ChangeShapes Go.WideShapes Go.RowKit
open Go.Proofs.YtoflafbhfoncmaaDoor.MatM (M6)
open Go.Proofs.YtoflafbhfoncmaaDoor.PathM
set_option linter.unusedVariables false
set_option linter.unusedSimpArgs false

set_option maxRecDepth 8000 in
theorem now_none (w : World) : Calls Tryd.prog 9 #[.pointer none] w fun E w' => E = .returned (.agg #[.int .i64 65536, .int .i64 0, .int .i64 0, .int .i64 65536, .int .i64 0, .int .i64 0, .int .i64 1, .int .i64 0, .int .i64 0, .int .i64 0, .int .i64 0, .int .i64 65536, .int .i64 0, .int .i64 0, .int .i64 655360, .slice none 0 0, .int .i64 0, .int .i64 (-1), .int .i64 65536, .int .i64 0, .int .i64 0, .int .i64 65536, .int .i64 0, .int .i64 0, .slice none 0 0, .bool false]) ∧ Up w w' := by
  go_enter Tryd.func9, Tryd.ntmps9
  go_wp2_with (first
    | (go_at_call 18; ((with_reducible refine (start_calls _).mono ?_); rintro E w1 ⟨rfl, hu1⟩; have z1 := hu1.size; (try simp at z1); have RY1 : Row w1 w.heap.size #[.int .i64 0, .int .i64 0, .int .i64 0, .int .i64 0, .int .i64 0, .int .i64 0, .int .i64 0, .int .i64 0, .int .i64 0, .int .i64 0, .int .i64 0, .int .i64 0, .int .i64 0, .int .i64 0, .int .i64 0, .slice none 0 0, .int .i64 0, .int .i64 0, .int .i64 0, .int .i64 0, .int .i64 0, .int .i64 0, .int .i64 0, .int .i64 0, .slice none 0 0, .bool false] := Row.up (show Row _ w.heap.size #[.int .i64 0, .int .i64 0, .int .i64 0, .int .i64 0, .int .i64 0, .int .i64 0, .int .i64 0, .int .i64 0, .int .i64 0, .int .i64 0, .int .i64 0, .int .i64 0, .int .i64 0, .int .i64 0, .int .i64 0, .slice none 0 0, .int .i64 0, .int .i64 0, .int .i64 0, .int .i64 0, .int .i64 0, .int .i64 0, .int .i64 0, .int .i64 0, .slice none 0 0, .bool false] by (repeat' (first | (with_reducible assumption) | (with_reducible refine Row.at _ _ ?_; (simp; done)) | (with_reducible refine Row.alloc ?_ _) | (with_reducible refine Row.drew ?_) | (with_reducible refine Row.drewN ?_ _) | (with_reducible refine Row.other ?_ (by first | (simp; done) | (simp; omega) | omega) _) | (with_reducible refine Row.up ?_ (by with_reducible assumption)) | (with_reducible refine Row.chg ?_ (by with_reducible assumption) (by first | (simp; done) | (simp; omega)))))) hu1))
    | ((refine wpList_store_Row rfl 41 (.tmp 2) _ rfl w.heap.size #[.int .i64 65536, .int .i64 0, .int .i64 0, .int .i64 65536, .int .i64 0, .int .i64 0, .int .i64 1, .int .i64 0, .int .i64 0, .int .i64 0, .int .i64 0, .int .i64 65536, .int .i64 0, .int .i64 0, .int .i64 655360, .slice none 0 0, .int .i64 0, .int .i64 (-1), .int .i64 65536, .int .i64 0, .int .i64 0, .int .i64 65536, .int .i64 0, .int .i64 0, .slice none 0 0, .bool false] rfl rfl #[.int .i64 0, .int .i64 0, .int .i64 0, .int .i64 0, .int .i64 0, .int .i64 0, .int .i64 0, .int .i64 0, .int .i64 0, .int .i64 0, .int .i64 0, .int .i64 0, .int .i64 0, .int .i64 0, .int .i64 0, .slice none 0 0, .int .i64 0, .int .i64 0, .int .i64 0, .int .i64 0, .int .i64 0, .int .i64 0, .int .i64 0, .int .i64 0, .slice none 0 0, .bool false] (by (repeat' (first | (with_reducible assumption) | (with_reducible refine Row.at _ _ ?_; (simp; done)) | (with_reducible refine Row.alloc ?_ _) | (with_reducible refine Row.drew ?_) | (with_reducible refine Row.drewN ?_ _) | (with_reducible refine Row.other ?_ (by first | (simp; done) | (simp; omega) | omega) _) | (with_reducible refine Row.up ?_ (by with_reducible assumption)) | (with_reducible refine Row.chg ?_ (by with_reducible assumption) (by first | (simp; done) | (simp; omega)))))) infoSt rfl rfl (by simp [Value.oneCell']) ?_); intro w9 hr9 hc9))
  (try simp only [Exit.inBlock, Exit.then])
  refine bodyPost_ret (results_st rfl _ _ w.heap.size _ hr9 rfl rfl) rfl ?_
  exact ⟨rfl, (show Chg [] w w9 by (repeat' (first | (with_reducible exact Chg.refl _ _) | (with_reducible assumption) | (with_reducible refine Chg.alloc ?_ _) | (with_reducible refine Chg.drew ?_) | (with_reducible refine Chg.drewN ?_ _) | (with_reducible refine Chg.setCell ?_ ?_ _) | (with_reducible refine Chg.upc ?_ (by with_reducible assumption)) | (with_reducible refine Chg.call ?_ (by with_reducible assumption) ?_) | (refine Or.inl ?_; (simp; done)) | (simp; done) | (simp; omega) | omega))).up⟩

/-- is a call of states that are none silent? -/
def silentB (D : Int) : Bool := decide (D < 1) || (decide (14 < D) || (decide (2 ≤ D) && decide (D ≤ 4)))
theorem call_all (D : Int) (k16 : D ≠ 16) (N : Int) (m : M6) (a : Option Addr) (len cap : Nat) (zs : List Int) (px py : Int) (w : World) (h : IsRow .i64 w a len cap zs) (h100 : len ≤ 100) :
    Calls Tryd.prog 8 #[.pointer none, .agg #[.int .i64 D, .int .i64 N, .int .i64 m.a, .int .i64 m.b, .int .i64 m.c, .int .i64 m.d, .int .i64 m.x, .int .i64 m.y, .slice a len cap, .int .i64 px, .int .i64 py]] w fun E w' => (∃ e : Int, E = .returned (.int .i64 e) ∧ (silentB D = false → e = 21)) ∧ Up w w' := by

  by_cases k1 : D = 1
  · subst k1
    exact (call_1 N m a len cap zs px py w h h100).mono fun E w' ⟨h1, h2⟩ => ⟨⟨21, h1, by decide⟩, h2⟩
  by_cases k2 : D = 2
  · subst k2
    exact (call_2 N m a len cap zs px py w h h100).mono fun E w' ⟨h1, h2⟩ => ⟨⟨0, h1, by decide⟩, h2⟩
  by_cases k3 : D = 3
  · subst k3
    exact (call_3 N m a len cap zs px py w h h100).mono fun E w' ⟨h1, h2⟩ => ⟨⟨0, h1, by decide⟩, h2⟩
  by_cases k4 : D = 4
  · subst k4
    exact (call_4 N m a len cap zs px py w h h100).mono fun E w' ⟨h1, h2⟩ => ⟨⟨0, h1, by decide⟩, h2⟩
  by_cases k5 : D = 5
  · subst k5
    exact (call_5 N m a len cap zs px py w h h100).mono fun E w' ⟨h1, h2⟩ => ⟨⟨21, h1, by decide⟩, h2⟩
  by_cases k6 : D = 6
  · subst k6
    exact (call_6 N m a len cap zs px py w h h100).mono fun E w' ⟨h1, h2⟩ => ⟨⟨21, h1, by decide⟩, h2⟩
  by_cases k7 : D = 7
  · subst k7
    exact (call_7 N m a len cap zs px py w h h100).mono fun E w' ⟨h1, h2⟩ => ⟨⟨21, h1, by decide⟩, h2⟩
  by_cases k8 : D = 8
  · subst k8
    exact (call_8 N m a len cap zs px py w h h100).mono fun E w' ⟨h1, h2⟩ => ⟨⟨21, h1, by decide⟩, h2⟩
  by_cases k9 : D = 9
  · subst k9
    exact (call_9 N m a len cap zs px py w h h100).mono fun E w' ⟨h1, h2⟩ => ⟨⟨21, h1, by decide⟩, h2⟩
  by_cases k10 : D = 10
  · subst k10
    exact (call_10 N m a len cap zs px py w h h100).mono fun E w' ⟨h1, h2⟩ => ⟨⟨21, h1, by decide⟩, h2⟩
  by_cases k11 : D = 11
  · subst k11
    exact (call_11 N m a len cap zs px py w h h100).mono fun E w' ⟨h1, h2⟩ => ⟨⟨21, h1, by decide⟩, h2⟩
  by_cases k12 : D = 12
  · subst k12
    exact (call_12 N m a len cap zs px py w h h100).mono fun E w' ⟨h1, h2⟩ => ⟨⟨21, h1, by decide⟩, h2⟩
  by_cases k13 : D = 13
  · subst k13
    exact (call_13 N m a len cap zs px py w h h100).mono fun E w' ⟨h1, h2⟩ => ⟨⟨21, h1, by decide⟩, h2⟩
  by_cases k14 : D = 14
  · subst k14
    exact (call_14 N m a len cap zs px py w h h100).mono fun E w' ⟨h1, h2⟩ => ⟨⟨21, h1, by decide⟩, h2⟩
  by_cases k15 : D = 15
  · subst k15
    exact (call_15 N m a len cap zs px py w h h100).mono fun E w' ⟨h1, h2⟩ => ⟨⟨0, h1, by decide⟩, h2⟩
  refine (call_else D (by simp; omega) (by simp; omega) (by simp; omega) (by simp; omega) (by simp; omega) (by simp; omega) (by simp; omega) (by simp; omega) (by simp; omega) (by simp; omega) (by simp; omega) (by simp; omega) (by simp; omega) (by simp; omega) (by simp; omega) (by simp; omega) N m a len cap zs px py w h h100).mono fun E w' ⟨h1, h2⟩ => ⟨⟨0, h1, fun h3 => ?_⟩, h2⟩
  exfalso
  unfold silentB at h3
  simp only [Bool.or_eq_false_iff, Bool.and_eq_false_iff, decide_eq_false_iff_not] at h3
  omega

end Go.Proofs.YtoflafbhfoncmaaDoor.Gs