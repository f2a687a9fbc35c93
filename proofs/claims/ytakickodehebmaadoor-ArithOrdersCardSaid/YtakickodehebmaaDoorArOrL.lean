/- ArithOrders, two numbers (L): for every input the law returns true. Its card lists a package-level variable. No other condition. -/
import Derived.Test.YtakickodehebmaaDoorArP
import Derived.Lib.LaidTab
import Derived.Deep.DeepHandedRow
import Derived.Test.YtakickodehebmaaDoorTie
import Derived.Test.YtakickodehebmaaDoorCards
import Derived.Test.YtakickodehebmaaDoorArgs
import Derived.Deep.QuietTactic
import Derived.Deep.Cut
import Derived.Test.YtakickodehebmaaDoorArQ
import Derived.Test.YtakickodehebmaaDoorObj
namespace Go.Proofs.YtakickodehebmaaDoor.arithOrders
open Go.ChangeShapes Go.WideShapes Go.ChangeAt Go.RowKit
open Go.Proofs.YtakickodehebmaaDoor.FixM (fits within)
open Go.Proofs.YtakickodehebmaaDoor.ArM
open Go.Proofs.YtakickodehebmaaDoor.Ar
set_option linter.unusedVariables false
set_option linter.unusedSimpArgs false

set_option maxHeartbeats 8000000 in
set_option maxRecDepth 4000 in
theorem walk_L {w : World} (k : Int) (x : Bool) (a n : Int) (s : ByteArray) (r f l : Int) (k' : Int) (x' : Bool) (a' n' : Int) (s' : ByteArray) (r' f' l' : Int) (k2 : Int) (x2 : Bool) (a2 n2 : Int) (s2 : ByteArray) (r2 f2 l2 : Int) (v3 t3 f3 : Bool) (HB : Hid ((numb k n && numb k' n') = true)) (HB2 : Hid ((numb k' n' && numb k n) = true)) (HB3 : Hid ((numb k' n' && numb k2 n2) = v3)) (HB4 : Hid ((numb k n && numb k2 n2) = v3))
    (HP : Hid ((true && decide (scaled k n < scaled k' n')) = true)) (HQ : Hid ((true && decide (scaled k n = scaled k' n')) = false)) (HM : Hid ((true && decide (scaled k' n' < scaled k n)) = false))
    (HT : Hid ((v3 && decide (scaled k' n' < scaled k2 n2)) = t3)) (HF : Hid ((v3 && decide (scaled k n < scaled k2 n2)) = f3)) (N1 : Hid (numb k n = true)) (N2 : Hid (numb k' n' = true))
    (HO : Hid (bin 22 k n k' n' = (3, 1, 0)))
    (HE : Hid ((v3 = false ∧ t3 = false) ∨ t3 = false ∨ (v3 = true ∧ f3 = true))) :
    Calls Tryd.prog 4 #[.agg #[.int .i64 k, .bool x, .int .i64 a, .int .i64 n, .string s, .int .i64 r, .int .i64 f, .int .i64 l], .agg #[.int .i64 k', .bool x', .int .i64 a', .int .i64 n', .string s', .int .i64 r', .int .i64 f', .int .i64 l'], .agg #[.int .i64 k2, .bool x2, .int .i64 a2, .int .i64 n2, .string s2, .int .i64 r2, .int .i64 f2, .int .i64 l2]] w fun e w' => e = .returned (.bool true) ∧ Up w w' := by
  go_enter Tryd.func4, Tryd.ntmps4
  go_upto_region 14 with (first
    | (go_at_call 13; ((with_reducible refine (less_t k x a n s r f l k' x' a' n' s' r' f' l' _ _ _ HB.out HP.out).mono ?_); rintro E w1 ⟨rfl, hu1⟩; have k_w1 := hu1.cells.1; have f_w1 := hu1.cells.2; have z_w1 := hu1.size; (try simp at z_w1); have l0_w1 : w.heap.size < w1.heap.size := (by omega); have l1_w1 : w.heap.size + 1 < w1.heap.size := (by omega); have l2_w1 : w.heap.size + 1 + 1 < w1.heap.size := (by omega); have m2_w1 : w.heap.size + 2 < w1.heap.size := (by omega)))
    | (go_at_call 14; ((with_reducible refine (equal_t k x a n s r f l k' x' a' n' s' r' f' l' _ _ _ HB.out HQ.out).mono ?_); rintro E w2 ⟨rfl, hu2⟩; have k_w2 := hu2.cells.1; have f_w2 := hu2.cells.2; have z_w2 := hu2.size; (try simp at z_w2); have l0_w2 : w.heap.size < w2.heap.size := (by omega); have l1_w2 : w.heap.size + 1 < w2.heap.size := (by omega); have l2_w2 : w.heap.size + 1 + 1 < w2.heap.size := (by omega); have m2_w2 : w.heap.size + 2 < w2.heap.size := (by omega)))
    | (go_at_call 11; ((with_reducible refine (val_calls k x a n s r f l _).mono ?_); rintro E w3 ⟨rfl, hu3⟩; have k_w3 := hu3.cells.1; have f_w3 := hu3.cells.2; have z_w3 := hu3.size; (try simp at z_w3); have l0_w3 : w.heap.size < w3.heap.size := (by omega); have l1_w3 : w.heap.size + 1 < w3.heap.size := (by omega); have l2_w3 : w.heap.size + 1 + 1 < w3.heap.size := (by omega); have m2_w3 : w.heap.size + 2 < w3.heap.size := (by omega)))
    | (go_at_call 11; ((with_reducible refine (val_calls k' x' a' n' s' r' f' l' _).mono ?_); rintro E w4 ⟨rfl, hu4⟩; have k_w4 := hu4.cells.1; have f_w4 := hu4.cells.2; have z_w4 := hu4.size; (try simp at z_w4); have l0_w4 : w.heap.size < w4.heap.size := (by omega); have l1_w4 : w.heap.size + 1 < w4.heap.size := (by omega); have l2_w4 : w.heap.size + 1 + 1 < w4.heap.size := (by omega); have m2_w4 : w.heap.size + 2 < w4.heap.size := (by omega)))
    | (go_at_call 15; ((with_reducible refine (isNumber_calls k x a n s _).mono ?_); rintro E w5 ⟨rfl, hu5⟩; have k_w5 := hu5.cells.1; have f_w5 := hu5.cells.2; have z_w5 := hu5.size; (try simp at z_w5); have l0_w5 : w.heap.size < w5.heap.size := (by omega); have l1_w5 : w.heap.size + 1 < w5.heap.size := (by omega); have l2_w5 : w.heap.size + 1 + 1 < w5.heap.size := (by omega); have m2_w5 : w.heap.size + 2 < w5.heap.size := (by omega); rw [N1.out]))
    | (go_at_call 15; ((with_reducible refine (isNumber_calls k' x' a' n' s' _).mono ?_); rintro E w6 ⟨rfl, hu6⟩; have k_w6 := hu6.cells.1; have f_w6 := hu6.cells.2; have z_w6 := hu6.size; (try simp at z_w6); have l0_w6 : w.heap.size < w6.heap.size := (by omega); have l1_w6 : w.heap.size + 1 < w6.heap.size := (by omega); have l2_w6 : w.heap.size + 1 + 1 < w6.heap.size := (by omega); have m2_w6 : w.heap.size + 2 < w6.heap.size := (by omega); rw [N2.out]))
    | (go_at_call 8; ((with_reducible refine (answers_calls _).mono ?_); rintro E w7 ⟨rfl, hu7⟩; have k_w7 := hu7.cells.1; have f_w7 := hu7.cells.2; have z_w7 := hu7.size; (try simp at z_w7); have l0_w7 : w.heap.size < w7.heap.size := (by omega); have l1_w7 : w.heap.size + 1 < w7.heap.size := (by omega); have l2_w7 : w.heap.size + 1 + 1 < w7.heap.size := (by omega); have m2_w7 : w.heap.size + 2 < w7.heap.size := (by omega)))
    | (go_at_call 13; ((with_reducible refine (less_t k' x' a' n' s' r' f' l' k x a n s r f l _ _ _ HB2.out HM.out).mono ?_); rintro E w8 ⟨rfl, hu8⟩; have k_w8 := hu8.cells.1; have f_w8 := hu8.cells.2; have z_w8 := hu8.size; (try simp at z_w8); have l0_w8 : w.heap.size < w8.heap.size := (by omega); have l1_w8 : w.heap.size + 1 < w8.heap.size := (by omega); have l2_w8 : w.heap.size + 1 + 1 < w8.heap.size := (by omega); have m2_w8 : w.heap.size + 2 < w8.heap.size := (by omega)))
    | (go_at_call 10; ((with_reducible refine (do_22 k x a n s r f l k' x' a' n' s' r' f' l' _ _ _ (Cs.of_row (by (repeat' (first | (with_reducible assumption) | (with_reducible refine Row.at _ _ ?_; (simp; done)) | (with_reducible refine Row.alloc ?_ _) | (with_reducible refine Row.drew ?_) | (with_reducible refine Row.drewN ?_ _) | (with_reducible refine Row.other ?_ (by first | (simp; done) | (simp; omega) | omega) _) | (with_reducible refine Row.up ?_ (by with_reducible assumption)) | (with_reducible refine Row.chg ?_ (by with_reducible assumption) (by first | (simp; done) | (simp; omega))))))) (by simp) _ _ _ HO.out).mono ?_); rintro E w9 ⟨hg, hu9⟩; obtain ⟨c1, hc1, rfl, gc1⟩ := hg.ok; have pc1 := gc1.cell 0 rfl; have qc1 := gc1.cell 3 rfl; have lc1 := gc1.lt; have k_w9 := hu9.cells.1; have f_w9 := hu9.cells.2; have z_w9 := hu9.size; (try simp at z_w9); have l0_w9 : w.heap.size < w9.heap.size := (by omega); have l1_w9 : w.heap.size + 1 < w9.heap.size := (by omega); have l2_w9 : w.heap.size + 1 + 1 < w9.heap.size := (by omega); have m2_w9 : w.heap.size + 2 < w9.heap.size := (by omega)))
    | (go_at_call 13; ((with_reducible refine (less_t k' x' a' n' s' r' f' l' k2 x2 a2 n2 s2 r2 f2 l2 _ _ _ HB3.out HT.out).mono ?_); rintro E w10 ⟨rfl, hu10⟩; have k_w10 := hu10.cells.1; have f_w10 := hu10.cells.2; have z_w10 := hu10.size; (try simp at z_w10); have l0_w10 : w.heap.size < w10.heap.size := (by omega); have l1_w10 : w.heap.size + 1 < w10.heap.size := (by omega); have l2_w10 : w.heap.size + 1 + 1 < w10.heap.size := (by omega); have m2_w10 : w.heap.size + 2 < w10.heap.size := (by omega)))
    | (go_at_call 13; ((with_reducible refine (less_t k x a n s r f l k2 x2 a2 n2 s2 r2 f2 l2 _ _ _ HB4.out HF.out).mono ?_); rintro E w11 ⟨rfl, hu11⟩; have k_w11 := hu11.cells.1; have f_w11 := hu11.cells.2; have z_w11 := hu11.size; (try simp at z_w11); have l0_w11 : w.heap.size < w11.heap.size := (by omega); have l1_w11 : w.heap.size + 1 < w11.heap.size := (by omega); have l2_w11 : w.heap.size + 1 + 1 < w11.heap.size := (by omega); have m2_w11 : w.heap.size + 2 < w11.heap.size := (by omega))))
  rcases HE.out with ⟨rfl, rfl⟩ | rfl | ⟨rfl, rfl⟩
  · go_wp2
    go_ret
    exact ⟨rfl, by (repeat' (first | (with_reducible exact Up.refl _) | (with_reducible assumption) | (with_reducible refine Up.alloc ?_ _) | (with_reducible refine Up.drew ?_) | (with_reducible refine Up.drewN ?_ _) | (with_reducible refine Up.setCell ?_ ?_ _) | (with_reducible refine Up.call ?_ (by with_reducible assumption)) | go_size))⟩
  · cases v3
    all_goals
      go_wp2
      go_ret
      exact ⟨rfl, by (repeat' (first | (with_reducible exact Up.refl _) | (with_reducible assumption) | (with_reducible refine Up.alloc ?_ _) | (with_reducible refine Up.drew ?_) | (with_reducible refine Up.drewN ?_ _) | (with_reducible refine Up.setCell ?_ ?_ _) | (with_reducible refine Up.call ?_ (by with_reducible assumption)) | go_size))⟩
  · cases t3
    all_goals
      go_wp2
      go_ret
      exact ⟨rfl, by (repeat' (first | (with_reducible exact Up.refl _) | (with_reducible assumption) | (with_reducible refine Up.alloc ?_ _) | (with_reducible refine Up.drew ?_) | (with_reducible refine Up.drewN ?_ _) | (with_reducible refine Up.setCell ?_ ?_ _) | (with_reducible refine Up.call ?_ (by with_reducible assumption)) | go_size))⟩
end Go.Proofs.YtakickodehebmaaDoor.arithOrders
