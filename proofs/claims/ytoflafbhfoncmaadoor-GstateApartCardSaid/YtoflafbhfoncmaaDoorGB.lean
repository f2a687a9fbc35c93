/- gstate's SetWidth, SetMiter, SetCap, SetJoin, SetMatrix, Unclip: rows of any states. No condition. gstate's Concat of any states. Its condition: the matrix's last two numbers fit. -/
import Derived.Test.YtoflafbhfoncmaaDoorGA
import Derived.Test.YtoflafbhfoncmaaDoorMat2
import Derived.Deep.Cut
import Derived.Deep.MidRow
section
namespace Go.Proofs.YtoflafbhfoncmaaDoor.Gt
open Go.ChangeShapes Go.WideShapes Go.ChangeAt Go.RowKit
open Go.Proofs.YtoflafbhfoncmaaDoor.FixM (fits)
open Go.Proofs.YtoflafbhfoncmaaDoor.MatM (M6)
open Go.Proofs.YtoflafbhfoncmaaDoor.PathM (Seg St Z segCells)
open Go.Proofs.YtoflafbhfoncmaaDoor.Path (own own_mem own_of PathIs Segs)
open Go.Proofs.YtoflafbhfoncmaaDoor.Pt (Clip clipCells Src)
set_option linter.unusedVariables false
set_option linter.unusedSimpArgs false

set_option maxRecDepth 8000 in
set_option maxHeartbeats 1000000 in
theorem setWidth_ok (cm : M6) (sp p0 p1 p2 p3 wd cp jn mt : Int) (dv : Value) (ph fn : Int) (fm : M6) (cv : Value) (dk : Bool) (pp : Value) (most segs : Int) (sv : Value) (b : Nat) (n : Int) (v : Gs.chk [n] = 0) (ht : decide (n < 0) = false) (w : World) (h : Row w b #[.int .i64 cm.a, .int .i64 cm.b, .int .i64 cm.c, .int .i64 cm.d, .int .i64 cm.x, .int .i64 cm.y, .int .i64 sp, .int .i64 p0, .int .i64 p1, .int .i64 p2, .int .i64 p3, .int .i64 wd, .int .i64 cp, .int .i64 jn, .int .i64 mt, dv, .int .i64 ph, .int .i64 fn, .int .i64 fm.a, .int .i64 fm.b, .int .i64 fm.c, .int .i64 fm.d, .int .i64 fm.x, .int .i64 fm.y, cv, .bool dk, pp, .int .i64 most, .int .i64 segs, sv]) : Calls Tryd.prog 22 #[.pointer (some ⟨b, 0, none⟩), .int .i64 n] w fun E w' => E = .returned (.int .i64 0) ∧ Row w' b #[.int .i64 cm.a, .int .i64 cm.b, .int .i64 cm.c, .int .i64 cm.d, .int .i64 cm.x, .int .i64 cm.y, .int .i64 sp, .int .i64 p0, .int .i64 p1, .int .i64 p2, .int .i64 p3, .int .i64 n, .int .i64 cp, .int .i64 jn, .int .i64 mt, dv, .int .i64 ph, .int .i64 fn, .int .i64 fm.a, .int .i64 fm.b, .int .i64 fm.c, .int .i64 fm.d, .int .i64 fm.x, .int .i64 fm.y, cv, .bool dk, pp, .int .i64 most, .int .i64 segs, sv] ∧ Chg [b] w w' := by
  have HR := Lib.hid h
  have hlt := h.lt
  clear h
  have HV := Lib.hid v
  clear v
  go_enter Tryd.func22, Tryd.ntmps22
  go_wp2_with (first
    | (go_at_call 45; ((with_reducible refine (Gs.check_calls ⟨b, 0, none⟩ [n] 1 w.heap.size 0 1 rfl _ (by decide) (Gs.ints1_row (by (repeat' (with_reducible first | assumption | (refine Row.at _ _ ?_; (simp; done)) | refine Row.alloc ?_ _ | refine Row.drew ?_ | refine Row.drewN ?_ _ | refine Row.other ?_ (by first | (simp; done) | (simp; omega) | omega) _ | refine Row.up ?_ (by assumption) | refine Row.chg ?_ (by assumption) (by first | (simp; done) | (simp; omega)))))) (by simp)).mono ?_); rw [HV.out]; rintro E w1 ⟨rfl, hu1⟩; have z1 := hu1.size; (try simp at z1); have RB : Row w1 b #[.int .i64 cm.a, .int .i64 cm.b, .int .i64 cm.c, .int .i64 cm.d, .int .i64 cm.x, .int .i64 cm.y, .int .i64 sp, .int .i64 p0, .int .i64 p1, .int .i64 p2, .int .i64 p3, .int .i64 wd, .int .i64 cp, .int .i64 jn, .int .i64 mt, dv, .int .i64 ph, .int .i64 fn, .int .i64 fm.a, .int .i64 fm.b, .int .i64 fm.c, .int .i64 fm.d, .int .i64 fm.x, .int .i64 fm.y, cv, .bool dk, pp, .int .i64 most, .int .i64 segs, sv] := Row.up (show Row _ b #[.int .i64 cm.a, .int .i64 cm.b, .int .i64 cm.c, .int .i64 cm.d, .int .i64 cm.x, .int .i64 cm.y, .int .i64 sp, .int .i64 p0, .int .i64 p1, .int .i64 p2, .int .i64 p3, .int .i64 wd, .int .i64 cp, .int .i64 jn, .int .i64 mt, dv, .int .i64 ph, .int .i64 fn, .int .i64 fm.a, .int .i64 fm.b, .int .i64 fm.c, .int .i64 fm.d, .int .i64 fm.x, .int .i64 fm.y, cv, .bool dk, pp, .int .i64 most, .int .i64 segs, sv] from HR.out.alloc _) hu1; have RB_lt := RB.lt; have rb11 := RB.cell 11 rfl; have rbf11 := RB.free 11)))
  go_ret
  exact ⟨rfl, (by apply cast; (case h => (repeat (first | (with_reducible first | assumption | (apply Row.at; (simp; done)) | apply Row.alloc | apply Row.drew | apply Row.drewN | apply Row.set) | ((with_reducible apply Row.other); (case hp => first | (simp; done) | (simp; omega) | omega))))); (case e => rfl)), by (repeat' (first | (with_reducible first | exact Chg.refl _ _ | assumption | refine Chg.alloc ?_ _ | refine Chg.drew ?_ | refine Chg.drewN ?_ _ | refine Chg.setCell ?_ ?_ _ | refine Chg.upc ?_ (by assumption) | refine Chg.call ?_ (by assumption) ?_) | (refine Or.inl ?_; (simp; done)) | (simp; done) | (simp; omega) | omega))⟩

set_option maxRecDepth 8000 in
set_option maxHeartbeats 1000000 in
theorem setWidth_bad (cm : M6) (sp p0 p1 p2 p3 wd cp jn mt : Int) (dv : Value) (ph fn : Int) (fm : M6) (cv : Value) (dk : Bool) (pp : Value) (most segs : Int) (sv : Value) (b : Nat) (n : Int) (v : Gs.chk [n] = 0) (ht : decide (n < 0) = true) (w : World) (h : Row w b #[.int .i64 cm.a, .int .i64 cm.b, .int .i64 cm.c, .int .i64 cm.d, .int .i64 cm.x, .int .i64 cm.y, .int .i64 sp, .int .i64 p0, .int .i64 p1, .int .i64 p2, .int .i64 p3, .int .i64 wd, .int .i64 cp, .int .i64 jn, .int .i64 mt, dv, .int .i64 ph, .int .i64 fn, .int .i64 fm.a, .int .i64 fm.b, .int .i64 fm.c, .int .i64 fm.d, .int .i64 fm.x, .int .i64 fm.y, cv, .bool dk, pp, .int .i64 most, .int .i64 segs, sv]) : Calls Tryd.prog 22 #[.pointer (some ⟨b, 0, none⟩), .int .i64 n] w fun E w' => E = .returned (.int .i64 11) ∧ Up w w' := by
  have HR := Lib.hid h
  have hlt := h.lt
  clear h
  have HV := Lib.hid v
  clear v
  go_enter Tryd.func22, Tryd.ntmps22
  go_wp2_with (first
    | (go_at_call 45; ((with_reducible refine (Gs.check_calls ⟨b, 0, none⟩ [n] 1 w.heap.size 0 1 rfl _ (by decide) (Gs.ints1_row (by (repeat' (with_reducible first | assumption | (refine Row.at _ _ ?_; (simp; done)) | refine Row.alloc ?_ _ | refine Row.drew ?_ | refine Row.drewN ?_ _ | refine Row.other ?_ (by first | (simp; done) | (simp; omega) | omega) _ | refine Row.up ?_ (by assumption) | refine Row.chg ?_ (by assumption) (by first | (simp; done) | (simp; omega)))))) (by simp)).mono ?_); rw [HV.out]; rintro E w1 ⟨rfl, hu1⟩; have z1 := hu1.size; (try simp at z1); have RB : Row w1 b #[.int .i64 cm.a, .int .i64 cm.b, .int .i64 cm.c, .int .i64 cm.d, .int .i64 cm.x, .int .i64 cm.y, .int .i64 sp, .int .i64 p0, .int .i64 p1, .int .i64 p2, .int .i64 p3, .int .i64 wd, .int .i64 cp, .int .i64 jn, .int .i64 mt, dv, .int .i64 ph, .int .i64 fn, .int .i64 fm.a, .int .i64 fm.b, .int .i64 fm.c, .int .i64 fm.d, .int .i64 fm.x, .int .i64 fm.y, cv, .bool dk, pp, .int .i64 most, .int .i64 segs, sv] := Row.up (show Row _ b #[.int .i64 cm.a, .int .i64 cm.b, .int .i64 cm.c, .int .i64 cm.d, .int .i64 cm.x, .int .i64 cm.y, .int .i64 sp, .int .i64 p0, .int .i64 p1, .int .i64 p2, .int .i64 p3, .int .i64 wd, .int .i64 cp, .int .i64 jn, .int .i64 mt, dv, .int .i64 ph, .int .i64 fn, .int .i64 fm.a, .int .i64 fm.b, .int .i64 fm.c, .int .i64 fm.d, .int .i64 fm.x, .int .i64 fm.y, cv, .bool dk, pp, .int .i64 most, .int .i64 segs, sv] from HR.out.alloc _) hu1; have RB_lt := RB.lt; have rb11 := RB.cell 11 rfl; have rbf11 := RB.free 11)))
  go_ret
  exact ⟨rfl, by (repeat' (first | (with_reducible first | exact Up.refl _ | assumption | refine Up.alloc ?_ _ | refine Up.drew ?_ | refine Up.drewN ?_ _ | refine Up.setCell ?_ ?_ _ | refine Up.call ?_ (by assumption)) | go_size))⟩

set_option maxRecDepth 8000 in
set_option maxHeartbeats 1000000 in
theorem setWidth_far (cm : M6) (sp p0 p1 p2 p3 wd cp jn mt : Int) (dv : Value) (ph fn : Int) (fm : M6) (cv : Value) (dk : Bool) (pp : Value) (most segs : Int) (sv : Value) (b : Nat) (n : Int) (v : Gs.chk [n] = 11) (w : World) (h : Row w b #[.int .i64 cm.a, .int .i64 cm.b, .int .i64 cm.c, .int .i64 cm.d, .int .i64 cm.x, .int .i64 cm.y, .int .i64 sp, .int .i64 p0, .int .i64 p1, .int .i64 p2, .int .i64 p3, .int .i64 wd, .int .i64 cp, .int .i64 jn, .int .i64 mt, dv, .int .i64 ph, .int .i64 fn, .int .i64 fm.a, .int .i64 fm.b, .int .i64 fm.c, .int .i64 fm.d, .int .i64 fm.x, .int .i64 fm.y, cv, .bool dk, pp, .int .i64 most, .int .i64 segs, sv]) : Calls Tryd.prog 22 #[.pointer (some ⟨b, 0, none⟩), .int .i64 n] w fun E w' => E = .returned (.int .i64 11) ∧ Up w w' := by
  have HR := Lib.hid h
  have hlt := h.lt
  clear h
  have HV := Lib.hid v
  clear v
  go_enter Tryd.func22, Tryd.ntmps22
  go_wp2_with (first
    | (go_at_call 45; ((with_reducible refine (Gs.check_calls ⟨b, 0, none⟩ [n] 1 w.heap.size 0 1 rfl _ (by decide) (Gs.ints1_row (by (repeat' (with_reducible first | assumption | (refine Row.at _ _ ?_; (simp; done)) | refine Row.alloc ?_ _ | refine Row.drew ?_ | refine Row.drewN ?_ _ | refine Row.other ?_ (by first | (simp; done) | (simp; omega) | omega) _ | refine Row.up ?_ (by assumption) | refine Row.chg ?_ (by assumption) (by first | (simp; done) | (simp; omega)))))) (by simp)).mono ?_); rw [HV.out]; rintro E w1 ⟨rfl, hu1⟩; have z1 := hu1.size; (try simp at z1); have RB : Row w1 b #[.int .i64 cm.a, .int .i64 cm.b, .int .i64 cm.c, .int .i64 cm.d, .int .i64 cm.x, .int .i64 cm.y, .int .i64 sp, .int .i64 p0, .int .i64 p1, .int .i64 p2, .int .i64 p3, .int .i64 wd, .int .i64 cp, .int .i64 jn, .int .i64 mt, dv, .int .i64 ph, .int .i64 fn, .int .i64 fm.a, .int .i64 fm.b, .int .i64 fm.c, .int .i64 fm.d, .int .i64 fm.x, .int .i64 fm.y, cv, .bool dk, pp, .int .i64 most, .int .i64 segs, sv] := Row.up (show Row _ b #[.int .i64 cm.a, .int .i64 cm.b, .int .i64 cm.c, .int .i64 cm.d, .int .i64 cm.x, .int .i64 cm.y, .int .i64 sp, .int .i64 p0, .int .i64 p1, .int .i64 p2, .int .i64 p3, .int .i64 wd, .int .i64 cp, .int .i64 jn, .int .i64 mt, dv, .int .i64 ph, .int .i64 fn, .int .i64 fm.a, .int .i64 fm.b, .int .i64 fm.c, .int .i64 fm.d, .int .i64 fm.x, .int .i64 fm.y, cv, .bool dk, pp, .int .i64 most, .int .i64 segs, sv] from HR.out.alloc _) hu1; have RB_lt := RB.lt; have rb11 := RB.cell 11 rfl; have rbf11 := RB.free 11)))
  go_ret
  exact ⟨rfl, by (repeat' (first | (with_reducible first | exact Up.refl _ | assumption | refine Up.alloc ?_ _ | refine Up.drew ?_ | refine Up.drewN ?_ _ | refine Up.setCell ?_ ?_ _ | refine Up.call ?_ (by assumption)) | go_size))⟩

set_option maxRecDepth 8000 in
set_option maxHeartbeats 1000000 in
theorem setMiter_ok (cm : M6) (sp p0 p1 p2 p3 wd cp jn mt : Int) (dv : Value) (ph fn : Int) (fm : M6) (cv : Value) (dk : Bool) (pp : Value) (most segs : Int) (sv : Value) (b : Nat) (n : Int) (v : Gs.chk [n] = 0) (ht : decide (n < 65536) = false) (w : World) (h : Row w b #[.int .i64 cm.a, .int .i64 cm.b, .int .i64 cm.c, .int .i64 cm.d, .int .i64 cm.x, .int .i64 cm.y, .int .i64 sp, .int .i64 p0, .int .i64 p1, .int .i64 p2, .int .i64 p3, .int .i64 wd, .int .i64 cp, .int .i64 jn, .int .i64 mt, dv, .int .i64 ph, .int .i64 fn, .int .i64 fm.a, .int .i64 fm.b, .int .i64 fm.c, .int .i64 fm.d, .int .i64 fm.x, .int .i64 fm.y, cv, .bool dk, pp, .int .i64 most, .int .i64 segs, sv]) : Calls Tryd.prog 32 #[.pointer (some ⟨b, 0, none⟩), .int .i64 n] w fun E w' => E = .returned (.int .i64 0) ∧ Row w' b #[.int .i64 cm.a, .int .i64 cm.b, .int .i64 cm.c, .int .i64 cm.d, .int .i64 cm.x, .int .i64 cm.y, .int .i64 sp, .int .i64 p0, .int .i64 p1, .int .i64 p2, .int .i64 p3, .int .i64 wd, .int .i64 cp, .int .i64 jn, .int .i64 n, dv, .int .i64 ph, .int .i64 fn, .int .i64 fm.a, .int .i64 fm.b, .int .i64 fm.c, .int .i64 fm.d, .int .i64 fm.x, .int .i64 fm.y, cv, .bool dk, pp, .int .i64 most, .int .i64 segs, sv] ∧ Chg [b] w w' := by
  have HR := Lib.hid h
  have hlt := h.lt
  clear h
  have HV := Lib.hid v
  clear v
  go_enter Tryd.func32, Tryd.ntmps32
  go_wp2_with (first
    | (go_at_call 45; ((with_reducible refine (Gs.check_calls ⟨b, 0, none⟩ [n] 1 w.heap.size 0 1 rfl _ (by decide) (Gs.ints1_row (by (repeat' (with_reducible first | assumption | (refine Row.at _ _ ?_; (simp; done)) | refine Row.alloc ?_ _ | refine Row.drew ?_ | refine Row.drewN ?_ _ | refine Row.other ?_ (by first | (simp; done) | (simp; omega) | omega) _ | refine Row.up ?_ (by assumption) | refine Row.chg ?_ (by assumption) (by first | (simp; done) | (simp; omega)))))) (by simp)).mono ?_); rw [HV.out]; rintro E w1 ⟨rfl, hu1⟩; have z1 := hu1.size; (try simp at z1); have RB : Row w1 b #[.int .i64 cm.a, .int .i64 cm.b, .int .i64 cm.c, .int .i64 cm.d, .int .i64 cm.x, .int .i64 cm.y, .int .i64 sp, .int .i64 p0, .int .i64 p1, .int .i64 p2, .int .i64 p3, .int .i64 wd, .int .i64 cp, .int .i64 jn, .int .i64 mt, dv, .int .i64 ph, .int .i64 fn, .int .i64 fm.a, .int .i64 fm.b, .int .i64 fm.c, .int .i64 fm.d, .int .i64 fm.x, .int .i64 fm.y, cv, .bool dk, pp, .int .i64 most, .int .i64 segs, sv] := Row.up (show Row _ b #[.int .i64 cm.a, .int .i64 cm.b, .int .i64 cm.c, .int .i64 cm.d, .int .i64 cm.x, .int .i64 cm.y, .int .i64 sp, .int .i64 p0, .int .i64 p1, .int .i64 p2, .int .i64 p3, .int .i64 wd, .int .i64 cp, .int .i64 jn, .int .i64 mt, dv, .int .i64 ph, .int .i64 fn, .int .i64 fm.a, .int .i64 fm.b, .int .i64 fm.c, .int .i64 fm.d, .int .i64 fm.x, .int .i64 fm.y, cv, .bool dk, pp, .int .i64 most, .int .i64 segs, sv] from HR.out.alloc _) hu1; have RB_lt := RB.lt; have rb14 := RB.cell 14 rfl; have rbf14 := RB.free 14)))
  go_ret
  exact ⟨rfl, (by apply cast; (case h => (repeat (first | (with_reducible first | assumption | (apply Row.at; (simp; done)) | apply Row.alloc | apply Row.drew | apply Row.drewN | apply Row.set) | ((with_reducible apply Row.other); (case hp => first | (simp; done) | (simp; omega) | omega))))); (case e => rfl)), by (repeat' (first | (with_reducible first | exact Chg.refl _ _ | assumption | refine Chg.alloc ?_ _ | refine Chg.drew ?_ | refine Chg.drewN ?_ _ | refine Chg.setCell ?_ ?_ _ | refine Chg.upc ?_ (by assumption) | refine Chg.call ?_ (by assumption) ?_) | (refine Or.inl ?_; (simp; done)) | (simp; done) | (simp; omega) | omega))⟩

set_option maxRecDepth 8000 in
set_option maxHeartbeats 1000000 in
theorem setMiter_bad (cm : M6) (sp p0 p1 p2 p3 wd cp jn mt : Int) (dv : Value) (ph fn : Int) (fm : M6) (cv : Value) (dk : Bool) (pp : Value) (most segs : Int) (sv : Value) (b : Nat) (n : Int) (v : Gs.chk [n] = 0) (ht : decide (n < 65536) = true) (w : World) (h : Row w b #[.int .i64 cm.a, .int .i64 cm.b, .int .i64 cm.c, .int .i64 cm.d, .int .i64 cm.x, .int .i64 cm.y, .int .i64 sp, .int .i64 p0, .int .i64 p1, .int .i64 p2, .int .i64 p3, .int .i64 wd, .int .i64 cp, .int .i64 jn, .int .i64 mt, dv, .int .i64 ph, .int .i64 fn, .int .i64 fm.a, .int .i64 fm.b, .int .i64 fm.c, .int .i64 fm.d, .int .i64 fm.x, .int .i64 fm.y, cv, .bool dk, pp, .int .i64 most, .int .i64 segs, sv]) : Calls Tryd.prog 32 #[.pointer (some ⟨b, 0, none⟩), .int .i64 n] w fun E w' => E = .returned (.int .i64 11) ∧ Up w w' := by
  have HR := Lib.hid h
  have hlt := h.lt
  clear h
  have HV := Lib.hid v
  clear v
  go_enter Tryd.func32, Tryd.ntmps32
  go_wp2_with (first
    | (go_at_call 45; ((with_reducible refine (Gs.check_calls ⟨b, 0, none⟩ [n] 1 w.heap.size 0 1 rfl _ (by decide) (Gs.ints1_row (by (repeat' (with_reducible first | assumption | (refine Row.at _ _ ?_; (simp; done)) | refine Row.alloc ?_ _ | refine Row.drew ?_ | refine Row.drewN ?_ _ | refine Row.other ?_ (by first | (simp; done) | (simp; omega) | omega) _ | refine Row.up ?_ (by assumption) | refine Row.chg ?_ (by assumption) (by first | (simp; done) | (simp; omega)))))) (by simp)).mono ?_); rw [HV.out]; rintro E w1 ⟨rfl, hu1⟩; have z1 := hu1.size; (try simp at z1); have RB : Row w1 b #[.int .i64 cm.a, .int .i64 cm.b, .int .i64 cm.c, .int .i64 cm.d, .int .i64 cm.x, .int .i64 cm.y, .int .i64 sp, .int .i64 p0, .int .i64 p1, .int .i64 p2, .int .i64 p3, .int .i64 wd, .int .i64 cp, .int .i64 jn, .int .i64 mt, dv, .int .i64 ph, .int .i64 fn, .int .i64 fm.a, .int .i64 fm.b, .int .i64 fm.c, .int .i64 fm.d, .int .i64 fm.x, .int .i64 fm.y, cv, .bool dk, pp, .int .i64 most, .int .i64 segs, sv] := Row.up (show Row _ b #[.int .i64 cm.a, .int .i64 cm.b, .int .i64 cm.c, .int .i64 cm.d, .int .i64 cm.x, .int .i64 cm.y, .int .i64 sp, .int .i64 p0, .int .i64 p1, .int .i64 p2, .int .i64 p3, .int .i64 wd, .int .i64 cp, .int .i64 jn, .int .i64 mt, dv, .int .i64 ph, .int .i64 fn, .int .i64 fm.a, .int .i64 fm.b, .int .i64 fm.c, .int .i64 fm.d, .int .i64 fm.x, .int .i64 fm.y, cv, .bool dk, pp, .int .i64 most, .int .i64 segs, sv] from HR.out.alloc _) hu1; have RB_lt := RB.lt; have rb14 := RB.cell 14 rfl; have rbf14 := RB.free 14)))
  go_ret
  exact ⟨rfl, by (repeat' (first | (with_reducible first | exact Up.refl _ | assumption | refine Up.alloc ?_ _ | refine Up.drew ?_ | refine Up.drewN ?_ _ | refine Up.setCell ?_ ?_ _ | refine Up.call ?_ (by assumption)) | go_size))⟩

set_option maxRecDepth 8000 in
set_option maxHeartbeats 1000000 in
theorem setMiter_far (cm : M6) (sp p0 p1 p2 p3 wd cp jn mt : Int) (dv : Value) (ph fn : Int) (fm : M6) (cv : Value) (dk : Bool) (pp : Value) (most segs : Int) (sv : Value) (b : Nat) (n : Int) (v : Gs.chk [n] = 11) (w : World) (h : Row w b #[.int .i64 cm.a, .int .i64 cm.b, .int .i64 cm.c, .int .i64 cm.d, .int .i64 cm.x, .int .i64 cm.y, .int .i64 sp, .int .i64 p0, .int .i64 p1, .int .i64 p2, .int .i64 p3, .int .i64 wd, .int .i64 cp, .int .i64 jn, .int .i64 mt, dv, .int .i64 ph, .int .i64 fn, .int .i64 fm.a, .int .i64 fm.b, .int .i64 fm.c, .int .i64 fm.d, .int .i64 fm.x, .int .i64 fm.y, cv, .bool dk, pp, .int .i64 most, .int .i64 segs, sv]) : Calls Tryd.prog 32 #[.pointer (some ⟨b, 0, none⟩), .int .i64 n] w fun E w' => E = .returned (.int .i64 11) ∧ Up w w' := by
  have HR := Lib.hid h
  have hlt := h.lt
  clear h
  have HV := Lib.hid v
  clear v
  go_enter Tryd.func32, Tryd.ntmps32
  go_wp2_with (first
    | (go_at_call 45; ((with_reducible refine (Gs.check_calls ⟨b, 0, none⟩ [n] 1 w.heap.size 0 1 rfl _ (by decide) (Gs.ints1_row (by (repeat' (with_reducible first | assumption | (refine Row.at _ _ ?_; (simp; done)) | refine Row.alloc ?_ _ | refine Row.drew ?_ | refine Row.drewN ?_ _ | refine Row.other ?_ (by first | (simp; done) | (simp; omega) | omega) _ | refine Row.up ?_ (by assumption) | refine Row.chg ?_ (by assumption) (by first | (simp; done) | (simp; omega)))))) (by simp)).mono ?_); rw [HV.out]; rintro E w1 ⟨rfl, hu1⟩; have z1 := hu1.size; (try simp at z1); have RB : Row w1 b #[.int .i64 cm.a, .int .i64 cm.b, .int .i64 cm.c, .int .i64 cm.d, .int .i64 cm.x, .int .i64 cm.y, .int .i64 sp, .int .i64 p0, .int .i64 p1, .int .i64 p2, .int .i64 p3, .int .i64 wd, .int .i64 cp, .int .i64 jn, .int .i64 mt, dv, .int .i64 ph, .int .i64 fn, .int .i64 fm.a, .int .i64 fm.b, .int .i64 fm.c, .int .i64 fm.d, .int .i64 fm.x, .int .i64 fm.y, cv, .bool dk, pp, .int .i64 most, .int .i64 segs, sv] := Row.up (show Row _ b #[.int .i64 cm.a, .int .i64 cm.b, .int .i64 cm.c, .int .i64 cm.d, .int .i64 cm.x, .int .i64 cm.y, .int .i64 sp, .int .i64 p0, .int .i64 p1, .int .i64 p2, .int .i64 p3, .int .i64 wd, .int .i64 cp, .int .i64 jn, .int .i64 mt, dv, .int .i64 ph, .int .i64 fn, .int .i64 fm.a, .int .i64 fm.b, .int .i64 fm.c, .int .i64 fm.d, .int .i64 fm.x, .int .i64 fm.y, cv, .bool dk, pp, .int .i64 most, .int .i64 segs, sv] from HR.out.alloc _) hu1; have RB_lt := RB.lt; have rb14 := RB.cell 14 rfl; have rbf14 := RB.free 14)))
  go_ret
  exact ⟨rfl, by (repeat' (first | (with_reducible first | exact Up.refl _ | assumption | refine Up.alloc ?_ _ | refine Up.drew ?_ | refine Up.drewN ?_ _ | refine Up.setCell ?_ ?_ _ | refine Up.call ?_ (by assumption)) | go_size))⟩

theorem check_nil (g : Addr) (w : World) : Calls Tryd.prog 45 #[.pointer (some g), .slice none 0 0] w fun e w' => e = .returned (.int .i64 0) ∧ w = w' := by
  have hi : Calls Tryd.prog 62 #[.slice none 0 0, .func (.func 58) #[] #[]] w fun e w' => e = .returned (.int .i64 (-1)) ∧ w = w' := by
    go_enter Tryd.func62, Tryd.ntmps62
    go_wp2
    go_loop [8] (fun i => i = .int .i64 0) (fun i => 1 - (intOf i).toNat)
    case atStart => exact rfl
    case round =>
      obtain rfl := hrel
      go_wp2
      go_ret
      exact ⟨rfl, rfl⟩
  have HI := Lib.hid hi
  clear hi
  have hc : Calls Tryd.prog 48 #[.slice none 0 0, .func (.func 58) #[] #[]] w fun e w' => e = .returned (.bool false) ∧ w = w' := by
    go_enter Tryd.func48, Tryd.ntmps48
    go_wp2_with (go_at_call 62; ((with_reducible refine (HI.out).mono ?_); rintro E w1 ⟨rfl, rfl⟩))
    go_ret
    exact ⟨rfl, rfl⟩
  have HC := Lib.hid hc
  clear hc
  go_enter Tryd.func45, Tryd.ntmps45
  go_wp2_with (go_at_call 48; ((with_reducible refine (HC.out).mono ?_); rintro E w1 ⟨rfl, rfl⟩))
  go_ret
  exact ⟨rfl, rfl⟩
/-- what a number from 0 to 2 answers -/
def shE (n : Int) : Int := if n < 0 then 11 else if 2 < n then 11 else 0
theorem shape_calls (g : Addr) (n : Int) (w : World) : Calls Tryd.prog 51 #[.pointer (some g), .int .i64 n] w fun e w' => e = .returned (.int .i64 (shE n)) ∧ w = w' := by
  unfold shE
  by_cases h1 : n < 0
  · rw [if_pos h1]
    have h2 : decide (n < 0) = true := decide_eq_true h1
    go_enter Tryd.func51, Tryd.ntmps51
    go_wp2_with (go_at_call 45; ((with_reducible refine (check_nil g _).mono ?_); rintro E w1 ⟨rfl, rfl⟩))
    go_ret
    exact ⟨rfl, rfl⟩
  · rw [if_neg h1]
    have h2 : decide (n < 0) = false := decide_eq_false h1
    by_cases h3 : 2 < n
    · rw [if_pos h3]
      have h4 : decide (2 < n) = true := decide_eq_true h3
      go_enter Tryd.func51, Tryd.ntmps51
      go_wp2_with (go_at_call 45; ((with_reducible refine (check_nil g _).mono ?_); rintro E w1 ⟨rfl, rfl⟩))
      go_ret
      exact ⟨rfl, rfl⟩
    · rw [if_neg h3]
      have h4 : decide (2 < n) = false := decide_eq_false h3
      go_enter Tryd.func51, Tryd.ntmps51
      go_wp2_with (go_at_call 45; ((with_reducible refine (check_nil g _).mono ?_); rintro E w1 ⟨rfl, rfl⟩))
      go_ret
      exact ⟨rfl, rfl⟩

set_option maxRecDepth 8000 in
set_option maxHeartbeats 1000000 in
theorem setCap_ok (cm : M6) (sp p0 p1 p2 p3 wd cp jn mt : Int) (dv : Value) (ph fn : Int) (fm : M6) (cv : Value) (dk : Bool) (pp : Value) (most segs : Int) (sv : Value) (b : Nat) (n : Int) (v : shE n = 0) (w : World) (h : Row w b #[.int .i64 cm.a, .int .i64 cm.b, .int .i64 cm.c, .int .i64 cm.d, .int .i64 cm.x, .int .i64 cm.y, .int .i64 sp, .int .i64 p0, .int .i64 p1, .int .i64 p2, .int .i64 p3, .int .i64 wd, .int .i64 cp, .int .i64 jn, .int .i64 mt, dv, .int .i64 ph, .int .i64 fn, .int .i64 fm.a, .int .i64 fm.b, .int .i64 fm.c, .int .i64 fm.d, .int .i64 fm.x, .int .i64 fm.y, cv, .bool dk, pp, .int .i64 most, .int .i64 segs, sv]) : Calls Tryd.prog 30 #[.pointer (some ⟨b, 0, none⟩), .int .i64 n] w fun E w' => E = .returned (.int .i64 0) ∧ Row w' b #[.int .i64 cm.a, .int .i64 cm.b, .int .i64 cm.c, .int .i64 cm.d, .int .i64 cm.x, .int .i64 cm.y, .int .i64 sp, .int .i64 p0, .int .i64 p1, .int .i64 p2, .int .i64 p3, .int .i64 wd, .int .i64 n, .int .i64 jn, .int .i64 mt, dv, .int .i64 ph, .int .i64 fn, .int .i64 fm.a, .int .i64 fm.b, .int .i64 fm.c, .int .i64 fm.d, .int .i64 fm.x, .int .i64 fm.y, cv, .bool dk, pp, .int .i64 most, .int .i64 segs, sv] ∧ Chg [b] w w' := by
  have HR := Lib.hid h
  have hlt := h.lt
  clear h
  have HV := Lib.hid v
  clear v
  go_enter Tryd.func30, Tryd.ntmps30
  go_wp2_with (first
    | (go_at_call 51; ((with_reducible refine (shape_calls ⟨b, 0, none⟩ n _).mono ?_); rw [HV.out]; rintro E w1 ⟨rfl, rfl⟩; have RB0 := HR.out; have rb := HR.out.cell 12 rfl; have rbf := HR.out.free 12)))
  go_ret
  exact ⟨rfl, (by apply cast; (case h => (repeat (first | (with_reducible first | assumption | (apply Row.at; (simp; done)) | apply Row.alloc | apply Row.drew | apply Row.drewN | apply Row.set) | ((with_reducible apply Row.other); (case hp => first | (simp; done) | (simp; omega) | omega))))); (case e => rfl)), by (repeat' (first | (with_reducible first | exact Chg.refl _ _ | assumption | refine Chg.alloc ?_ _ | refine Chg.drew ?_ | refine Chg.drewN ?_ _ | refine Chg.setCell ?_ ?_ _ | refine Chg.upc ?_ (by assumption) | refine Chg.call ?_ (by assumption) ?_) | (refine Or.inl ?_; (simp; done)) | (simp; done) | (simp; omega) | omega))⟩

set_option maxRecDepth 8000 in
set_option maxHeartbeats 1000000 in
theorem setCap_bad (cm : M6) (sp p0 p1 p2 p3 wd cp jn mt : Int) (dv : Value) (ph fn : Int) (fm : M6) (cv : Value) (dk : Bool) (pp : Value) (most segs : Int) (sv : Value) (b : Nat) (n : Int) (v : shE n = 11) (w : World) (h : Row w b #[.int .i64 cm.a, .int .i64 cm.b, .int .i64 cm.c, .int .i64 cm.d, .int .i64 cm.x, .int .i64 cm.y, .int .i64 sp, .int .i64 p0, .int .i64 p1, .int .i64 p2, .int .i64 p3, .int .i64 wd, .int .i64 cp, .int .i64 jn, .int .i64 mt, dv, .int .i64 ph, .int .i64 fn, .int .i64 fm.a, .int .i64 fm.b, .int .i64 fm.c, .int .i64 fm.d, .int .i64 fm.x, .int .i64 fm.y, cv, .bool dk, pp, .int .i64 most, .int .i64 segs, sv]) : Calls Tryd.prog 30 #[.pointer (some ⟨b, 0, none⟩), .int .i64 n] w fun E w' => E = .returned (.int .i64 11) ∧ Up w w' := by
  have HR := Lib.hid h
  have hlt := h.lt
  clear h
  have HV := Lib.hid v
  clear v
  go_enter Tryd.func30, Tryd.ntmps30
  go_wp2_with (first
    | (go_at_call 51; ((with_reducible refine (shape_calls ⟨b, 0, none⟩ n _).mono ?_); rw [HV.out]; rintro E w1 ⟨rfl, rfl⟩; have RB0 := HR.out; have rb := HR.out.cell 12 rfl; have rbf := HR.out.free 12)))
  go_ret
  exact ⟨rfl, by (repeat' (first | (with_reducible first | exact Up.refl _ | assumption | refine Up.alloc ?_ _ | refine Up.drew ?_ | refine Up.drewN ?_ _ | refine Up.setCell ?_ ?_ _ | refine Up.call ?_ (by assumption)) | go_size))⟩

set_option maxRecDepth 8000 in
set_option maxHeartbeats 1000000 in
theorem setJoin_ok (cm : M6) (sp p0 p1 p2 p3 wd cp jn mt : Int) (dv : Value) (ph fn : Int) (fm : M6) (cv : Value) (dk : Bool) (pp : Value) (most segs : Int) (sv : Value) (b : Nat) (n : Int) (v : shE n = 0) (w : World) (h : Row w b #[.int .i64 cm.a, .int .i64 cm.b, .int .i64 cm.c, .int .i64 cm.d, .int .i64 cm.x, .int .i64 cm.y, .int .i64 sp, .int .i64 p0, .int .i64 p1, .int .i64 p2, .int .i64 p3, .int .i64 wd, .int .i64 cp, .int .i64 jn, .int .i64 mt, dv, .int .i64 ph, .int .i64 fn, .int .i64 fm.a, .int .i64 fm.b, .int .i64 fm.c, .int .i64 fm.d, .int .i64 fm.x, .int .i64 fm.y, cv, .bool dk, pp, .int .i64 most, .int .i64 segs, sv]) : Calls Tryd.prog 31 #[.pointer (some ⟨b, 0, none⟩), .int .i64 n] w fun E w' => E = .returned (.int .i64 0) ∧ Row w' b #[.int .i64 cm.a, .int .i64 cm.b, .int .i64 cm.c, .int .i64 cm.d, .int .i64 cm.x, .int .i64 cm.y, .int .i64 sp, .int .i64 p0, .int .i64 p1, .int .i64 p2, .int .i64 p3, .int .i64 wd, .int .i64 cp, .int .i64 n, .int .i64 mt, dv, .int .i64 ph, .int .i64 fn, .int .i64 fm.a, .int .i64 fm.b, .int .i64 fm.c, .int .i64 fm.d, .int .i64 fm.x, .int .i64 fm.y, cv, .bool dk, pp, .int .i64 most, .int .i64 segs, sv] ∧ Chg [b] w w' := by
  have HR := Lib.hid h
  have hlt := h.lt
  clear h
  have HV := Lib.hid v
  clear v
  go_enter Tryd.func31, Tryd.ntmps31
  go_wp2_with (first
    | (go_at_call 51; ((with_reducible refine (shape_calls ⟨b, 0, none⟩ n _).mono ?_); rw [HV.out]; rintro E w1 ⟨rfl, rfl⟩; have RB0 := HR.out; have rb := HR.out.cell 13 rfl; have rbf := HR.out.free 13)))
  go_ret
  exact ⟨rfl, (by apply cast; (case h => (repeat (first | (with_reducible first | assumption | (apply Row.at; (simp; done)) | apply Row.alloc | apply Row.drew | apply Row.drewN | apply Row.set) | ((with_reducible apply Row.other); (case hp => first | (simp; done) | (simp; omega) | omega))))); (case e => rfl)), by (repeat' (first | (with_reducible first | exact Chg.refl _ _ | assumption | refine Chg.alloc ?_ _ | refine Chg.drew ?_ | refine Chg.drewN ?_ _ | refine Chg.setCell ?_ ?_ _ | refine Chg.upc ?_ (by assumption) | refine Chg.call ?_ (by assumption) ?_) | (refine Or.inl ?_; (simp; done)) | (simp; done) | (simp; omega) | omega))⟩

set_option maxRecDepth 8000 in
set_option maxHeartbeats 1000000 in
theorem setJoin_bad (cm : M6) (sp p0 p1 p2 p3 wd cp jn mt : Int) (dv : Value) (ph fn : Int) (fm : M6) (cv : Value) (dk : Bool) (pp : Value) (most segs : Int) (sv : Value) (b : Nat) (n : Int) (v : shE n = 11) (w : World) (h : Row w b #[.int .i64 cm.a, .int .i64 cm.b, .int .i64 cm.c, .int .i64 cm.d, .int .i64 cm.x, .int .i64 cm.y, .int .i64 sp, .int .i64 p0, .int .i64 p1, .int .i64 p2, .int .i64 p3, .int .i64 wd, .int .i64 cp, .int .i64 jn, .int .i64 mt, dv, .int .i64 ph, .int .i64 fn, .int .i64 fm.a, .int .i64 fm.b, .int .i64 fm.c, .int .i64 fm.d, .int .i64 fm.x, .int .i64 fm.y, cv, .bool dk, pp, .int .i64 most, .int .i64 segs, sv]) : Calls Tryd.prog 31 #[.pointer (some ⟨b, 0, none⟩), .int .i64 n] w fun E w' => E = .returned (.int .i64 11) ∧ Up w w' := by
  have HR := Lib.hid h
  have hlt := h.lt
  clear h
  have HV := Lib.hid v
  clear v
  go_enter Tryd.func31, Tryd.ntmps31
  go_wp2_with (first
    | (go_at_call 51; ((with_reducible refine (shape_calls ⟨b, 0, none⟩ n _).mono ?_); rw [HV.out]; rintro E w1 ⟨rfl, rfl⟩; have RB0 := HR.out; have rb := HR.out.cell 13 rfl; have rbf := HR.out.free 13)))
  go_ret
  exact ⟨rfl, by (repeat' (first | (with_reducible first | exact Up.refl _ | assumption | refine Up.alloc ?_ _ | refine Up.drew ?_ | refine Up.drewN ?_ _ | refine Up.setCell ?_ ?_ _ | refine Up.call ?_ (by assumption)) | go_size))⟩

theorem ints_row {w : World} {b : Nat} {l : List Int} {cs : Array Value} (h : Row w b cs) (e : cs.toList = l.map (Value.int .i64)) : Gs.IntsAt w b 0 l := fun i p hp => by
  rw [Nat.zero_add]
  refine h.cell i ?_
  have : cs.toList[i]? = some (.int .i64 p) := by rw [e, List.getElem?_map, hp]; rfl
  simpa using this
abbrev l6 (m : M6) : List Int := [m.a, m.b, m.c, m.d, m.x, m.y]
theorem info6 : (Tryd.prog.info? 26).map (·.size) = some 6 := by kernel_rfl

set_option maxRecDepth 8000 in
set_option maxHeartbeats 1000000 in
theorem setMatrix_ok (cm : M6) (sp p0 p1 p2 p3 wd cp jn mt : Int) (dv : Value) (ph fn : Int) (fm : M6) (cv : Value) (dk : Bool) (pp : Value) (most segs : Int) (sv : Value) (b : Nat) (m : M6) (v : Gs.chk (l6 m) = 0) (w : World) (h : Row w b #[.int .i64 cm.a, .int .i64 cm.b, .int .i64 cm.c, .int .i64 cm.d, .int .i64 cm.x, .int .i64 cm.y, .int .i64 sp, .int .i64 p0, .int .i64 p1, .int .i64 p2, .int .i64 p3, .int .i64 wd, .int .i64 cp, .int .i64 jn, .int .i64 mt, dv, .int .i64 ph, .int .i64 fn, .int .i64 fm.a, .int .i64 fm.b, .int .i64 fm.c, .int .i64 fm.d, .int .i64 fm.x, .int .i64 fm.y, cv, .bool dk, pp, .int .i64 most, .int .i64 segs, sv]) : Calls Tryd.prog 26 #[.pointer (some ⟨b, 0, none⟩), .agg #[.int .i64 m.a, .int .i64 m.b, .int .i64 m.c, .int .i64 m.d, .int .i64 m.x, .int .i64 m.y]] w fun E w' => E = .returned (.int .i64 0) ∧ Row w' b #[.int .i64 m.a, .int .i64 m.b, .int .i64 m.c, .int .i64 m.d, .int .i64 m.x, .int .i64 m.y, .int .i64 sp, .int .i64 p0, .int .i64 p1, .int .i64 p2, .int .i64 p3, .int .i64 wd, .int .i64 cp, .int .i64 jn, .int .i64 mt, dv, .int .i64 ph, .int .i64 fn, .int .i64 fm.a, .int .i64 fm.b, .int .i64 fm.c, .int .i64 fm.d, .int .i64 fm.x, .int .i64 fm.y, cv, .bool dk, pp, .int .i64 most, .int .i64 segs, sv] ∧ Chg [b] w w' := by
  have HR := Lib.hid h
  have hlt := h.lt
  clear h
  have HV := Lib.hid v
  clear v
  go_enter Tryd.func26, Tryd.ntmps26
  go_wp2_with (first
    | (go_at_call 45; ((with_reducible refine (Gs.check_calls ⟨b, 0, none⟩ (l6 m) 6 w.heap.size 0 6 rfl _ (by decide) (ints_row (cs := #[.int .i64 m.a, .int .i64 m.b, .int .i64 m.c, .int .i64 m.d, .int .i64 m.x, .int .i64 m.y]) (by (repeat' (with_reducible first | assumption | (refine Row.at _ _ ?_; (simp; done)) | refine Row.alloc ?_ _ | refine Row.drew ?_ | refine Row.drewN ?_ _ | refine Row.other ?_ (by first | (simp; done) | (simp; omega) | omega) _ | refine Row.up ?_ (by assumption) | refine Row.chg ?_ (by assumption) (by first | (simp; done) | (simp; omega))))) rfl) (by simp)).mono ?_); rw [HV.out]; rintro E w1 ⟨rfl, hu1⟩; have z1 := hu1.size; (try simp at z1); have RB : Row w1 b #[.int .i64 cm.a, .int .i64 cm.b, .int .i64 cm.c, .int .i64 cm.d, .int .i64 cm.x, .int .i64 cm.y, .int .i64 sp, .int .i64 p0, .int .i64 p1, .int .i64 p2, .int .i64 p3, .int .i64 wd, .int .i64 cp, .int .i64 jn, .int .i64 mt, dv, .int .i64 ph, .int .i64 fn, .int .i64 fm.a, .int .i64 fm.b, .int .i64 fm.c, .int .i64 fm.d, .int .i64 fm.x, .int .i64 fm.y, cv, .bool dk, pp, .int .i64 most, .int .i64 segs, sv] := Row.up (show Row _ b #[.int .i64 cm.a, .int .i64 cm.b, .int .i64 cm.c, .int .i64 cm.d, .int .i64 cm.x, .int .i64 cm.y, .int .i64 sp, .int .i64 p0, .int .i64 p1, .int .i64 p2, .int .i64 p3, .int .i64 wd, .int .i64 cp, .int .i64 jn, .int .i64 mt, dv, .int .i64 ph, .int .i64 fn, .int .i64 fm.a, .int .i64 fm.b, .int .i64 fm.c, .int .i64 fm.d, .int .i64 fm.x, .int .i64 fm.y, cv, .bool dk, pp, .int .i64 most, .int .i64 segs, sv] from HR.out.alloc _) hu1; have RB_lt := RB.lt; have RM : Row w1 w.heap.size #[.int .i64 m.a, .int .i64 m.b, .int .i64 m.c, .int .i64 m.d, .int .i64 m.x, .int .i64 m.y] := Row.up (show Row _ w.heap.size #[.int .i64 m.a, .int .i64 m.b, .int .i64 m.c, .int .i64 m.d, .int .i64 m.x, .int .i64 m.y] by (repeat' (with_reducible first | assumption | (refine Row.at _ _ ?_; (simp; done)) | refine Row.alloc ?_ _ | refine Row.drew ?_ | refine Row.drewN ?_ _ | refine Row.other ?_ (by first | (simp; done) | (simp; omega) | omega) _ | refine Row.up ?_ (by assumption) | refine Row.chg ?_ (by assumption) (by first | (simp; done) | (simp; omega))))) hu1; have rb0 := RB.cell 0 rfl; have rbf0 := RB.free 0; have rb1 := RB.cell 1 rfl; have rbf1 := RB.free 1; have rb2 := RB.cell 2 rfl; have rbf2 := RB.free 2; have rb3 := RB.cell 3 rfl; have rbf3 := RB.free 3; have rb4 := RB.cell 4 rfl; have rbf4 := RB.free 4; have rb5 := RB.cell 5 rfl; have rbf5 := RB.free 5))
    | (refine wpList_load_Row rfl 26 (.tmp 3) rfl (w.heap.size) rfl #[.int .i64 m.a, .int .i64 m.b, .int .i64 m.c, .int .i64 m.d, .int .i64 m.x, .int .i64 m.y] _ RM Tryd.underlying26 rfl info6 rfl ?_))
  go_ret
  exact ⟨rfl, (by apply cast; (case h => (repeat (first | (with_reducible first | assumption | (apply Row.at; (simp; done)) | apply Row.alloc | apply Row.drew | apply Row.drewN | apply Row.set) | ((with_reducible apply Row.other); (case hp => first | (simp; done) | (simp; omega) | omega))))); (case e => rfl)), by (repeat' (first | (with_reducible first | exact Chg.refl _ _ | assumption | refine Chg.alloc ?_ _ | refine Chg.drew ?_ | refine Chg.drewN ?_ _ | refine Chg.setCell ?_ ?_ _ | refine Chg.upc ?_ (by assumption) | refine Chg.call ?_ (by assumption) ?_) | (refine Or.inl ?_; (simp; done)) | (simp; done) | (simp; omega) | omega))⟩

set_option maxRecDepth 8000 in
set_option maxHeartbeats 1000000 in
theorem setMatrix_bad (cm : M6) (sp p0 p1 p2 p3 wd cp jn mt : Int) (dv : Value) (ph fn : Int) (fm : M6) (cv : Value) (dk : Bool) (pp : Value) (most segs : Int) (sv : Value) (b : Nat) (m : M6) (v : Gs.chk (l6 m) = 11) (w : World) (h : Row w b #[.int .i64 cm.a, .int .i64 cm.b, .int .i64 cm.c, .int .i64 cm.d, .int .i64 cm.x, .int .i64 cm.y, .int .i64 sp, .int .i64 p0, .int .i64 p1, .int .i64 p2, .int .i64 p3, .int .i64 wd, .int .i64 cp, .int .i64 jn, .int .i64 mt, dv, .int .i64 ph, .int .i64 fn, .int .i64 fm.a, .int .i64 fm.b, .int .i64 fm.c, .int .i64 fm.d, .int .i64 fm.x, .int .i64 fm.y, cv, .bool dk, pp, .int .i64 most, .int .i64 segs, sv]) : Calls Tryd.prog 26 #[.pointer (some ⟨b, 0, none⟩), .agg #[.int .i64 m.a, .int .i64 m.b, .int .i64 m.c, .int .i64 m.d, .int .i64 m.x, .int .i64 m.y]] w fun E w' => E = .returned (.int .i64 11) ∧ Up w w' := by
  have HR := Lib.hid h
  have hlt := h.lt
  clear h
  have HV := Lib.hid v
  clear v
  go_enter Tryd.func26, Tryd.ntmps26
  go_wp2_with (first
    | (go_at_call 45; ((with_reducible refine (Gs.check_calls ⟨b, 0, none⟩ (l6 m) 6 w.heap.size 0 6 rfl _ (by decide) (ints_row (cs := #[.int .i64 m.a, .int .i64 m.b, .int .i64 m.c, .int .i64 m.d, .int .i64 m.x, .int .i64 m.y]) (by (repeat' (with_reducible first | assumption | (refine Row.at _ _ ?_; (simp; done)) | refine Row.alloc ?_ _ | refine Row.drew ?_ | refine Row.drewN ?_ _ | refine Row.other ?_ (by first | (simp; done) | (simp; omega) | omega) _ | refine Row.up ?_ (by assumption) | refine Row.chg ?_ (by assumption) (by first | (simp; done) | (simp; omega))))) rfl) (by simp)).mono ?_); rw [HV.out]; rintro E w1 ⟨rfl, hu1⟩; have z1 := hu1.size; (try simp at z1); have RB : Row w1 b #[.int .i64 cm.a, .int .i64 cm.b, .int .i64 cm.c, .int .i64 cm.d, .int .i64 cm.x, .int .i64 cm.y, .int .i64 sp, .int .i64 p0, .int .i64 p1, .int .i64 p2, .int .i64 p3, .int .i64 wd, .int .i64 cp, .int .i64 jn, .int .i64 mt, dv, .int .i64 ph, .int .i64 fn, .int .i64 fm.a, .int .i64 fm.b, .int .i64 fm.c, .int .i64 fm.d, .int .i64 fm.x, .int .i64 fm.y, cv, .bool dk, pp, .int .i64 most, .int .i64 segs, sv] := Row.up (show Row _ b #[.int .i64 cm.a, .int .i64 cm.b, .int .i64 cm.c, .int .i64 cm.d, .int .i64 cm.x, .int .i64 cm.y, .int .i64 sp, .int .i64 p0, .int .i64 p1, .int .i64 p2, .int .i64 p3, .int .i64 wd, .int .i64 cp, .int .i64 jn, .int .i64 mt, dv, .int .i64 ph, .int .i64 fn, .int .i64 fm.a, .int .i64 fm.b, .int .i64 fm.c, .int .i64 fm.d, .int .i64 fm.x, .int .i64 fm.y, cv, .bool dk, pp, .int .i64 most, .int .i64 segs, sv] from HR.out.alloc _) hu1; have RB_lt := RB.lt; have RM : Row w1 w.heap.size #[.int .i64 m.a, .int .i64 m.b, .int .i64 m.c, .int .i64 m.d, .int .i64 m.x, .int .i64 m.y] := Row.up (show Row _ w.heap.size #[.int .i64 m.a, .int .i64 m.b, .int .i64 m.c, .int .i64 m.d, .int .i64 m.x, .int .i64 m.y] by (repeat' (with_reducible first | assumption | (refine Row.at _ _ ?_; (simp; done)) | refine Row.alloc ?_ _ | refine Row.drew ?_ | refine Row.drewN ?_ _ | refine Row.other ?_ (by first | (simp; done) | (simp; omega) | omega) _ | refine Row.up ?_ (by assumption) | refine Row.chg ?_ (by assumption) (by first | (simp; done) | (simp; omega))))) hu1; )))
  go_ret
  exact ⟨rfl, by (repeat' (first | (with_reducible first | exact Up.refl _ | assumption | refine Up.alloc ?_ _ | refine Up.drew ?_ | refine Up.drewN ?_ _ | refine Up.setCell ?_ ?_ _ | refine Up.call ?_ (by assumption)) | go_size))⟩

set_option maxRecDepth 8000 in
theorem unclip_calls (cm : M6) (sp p0 p1 p2 p3 wd cp jn mt : Int) (dv : Value) (ph fn : Int) (fm : M6) (cv : Value) (dk : Bool) (pp : Value) (most segs : Int) (sv : Value) (b : Nat) (w : World) (h : Row w b #[.int .i64 cm.a, .int .i64 cm.b, .int .i64 cm.c, .int .i64 cm.d, .int .i64 cm.x, .int .i64 cm.y, .int .i64 sp, .int .i64 p0, .int .i64 p1, .int .i64 p2, .int .i64 p3, .int .i64 wd, .int .i64 cp, .int .i64 jn, .int .i64 mt, dv, .int .i64 ph, .int .i64 fn, .int .i64 fm.a, .int .i64 fm.b, .int .i64 fm.c, .int .i64 fm.d, .int .i64 fm.x, .int .i64 fm.y, cv, .bool dk, pp, .int .i64 most, .int .i64 segs, sv]) : Calls Tryd.prog 34 #[.pointer (some ⟨b, 0, none⟩)] w fun E w' => E = .returned (.tuple #[]) ∧ Row w' b #[.int .i64 cm.a, .int .i64 cm.b, .int .i64 cm.c, .int .i64 cm.d, .int .i64 cm.x, .int .i64 cm.y, .int .i64 sp, .int .i64 p0, .int .i64 p1, .int .i64 p2, .int .i64 p3, .int .i64 wd, .int .i64 cp, .int .i64 jn, .int .i64 mt, dv, .int .i64 ph, .int .i64 fn, .int .i64 fm.a, .int .i64 fm.b, .int .i64 fm.c, .int .i64 fm.d, .int .i64 fm.x, .int .i64 fm.y, .slice none 0 0, .bool false, pp, .int .i64 most, .int .i64 segs, sv] ∧ Chg [b] w w' := by
  have HR := Lib.hid h
  have hlt := h.lt
  have g24 := h.cell 24 rfl
  have g25 := h.cell 25 rfl
  have f24 := h.free 24
  have f25 := h.free 25
  have RB0 := HR.out
  clear h
  go_enter Tryd.func34, Tryd.ntmps34
  go_wp2
  go_returns
  exact ⟨rfl, (by apply cast; (case h => (repeat (first | (with_reducible first | assumption | (apply Row.at; (simp; done)) | apply Row.alloc | apply Row.drew | apply Row.drewN | apply Row.set) | ((with_reducible apply Row.other); (case hp => first | (simp; done) | (simp; omega) | omega))))); (case e => rfl)), by (repeat' (first | (with_reducible first | exact Chg.refl _ _ | assumption | refine Chg.alloc ?_ _ | refine Chg.drew ?_ | refine Chg.drewN ?_ _ | refine Chg.setCell ?_ ?_ _ | refine Chg.upc ?_ (by assumption) | refine Chg.call ?_ (by assumption) ?_) | (refine Or.inl ?_; (simp; done)) | (simp; done) | (simp; omega) | omega))⟩

end Go.Proofs.YtoflafbhfoncmaaDoor.Gt
end

section
namespace Go.Proofs.YtoflafbhfoncmaaDoor.Gt
open List renaming getElem_toArray → lga, getElem_cons_zero → lgz, getElem_cons_succ → lgs, setIfInBounds_toArray → lsa, set_cons_zero → lsz, set_cons_succ → lss
open Go.ChangeShapes Go.WideShapes Go.ChangeAt Go.RowKit
open Go.Proofs.YtoflafbhfoncmaaDoor.FixM (fits)
open Go.Proofs.YtoflafbhfoncmaaDoor.MatM (M6)
open Go.Proofs.YtoflafbhfoncmaaDoor.PathM (Seg St Z segCells)
open Go.Proofs.YtoflafbhfoncmaaDoor.Path (own own_mem own_of PathIs Segs)
open Go.Proofs.YtoflafbhfoncmaaDoor.Pt (Clip clipCells Src)
set_option linter.unusedVariables false
set_option linter.unusedSimpArgs false

theorem rng_all {W : World} {b : Nat} {cs : Array Value} (h : Row W b cs) : W.rangeAt b 0 cs.toList := fun j v hj => by
  rw [Nat.zero_add]
  exact h.cell j (by simpa using hj)
theorem row_ctm {W : World} {b : Nat} {cm : M6} {sp p0 p1 p2 p3 wd cp jn mt : Int} {dv : Value} {ph fn : Int} {fm : M6} {cv : Value} {dk : Bool} {pp : Value} {most segs : Int} {sv : Value} (h : Row W b #[.int .i64 cm.a, .int .i64 cm.b, .int .i64 cm.c, .int .i64 cm.d, .int .i64 cm.x, .int .i64 cm.y, .int .i64 sp, .int .i64 p0, .int .i64 p1, .int .i64 p2, .int .i64 p3, .int .i64 wd, .int .i64 cp, .int .i64 jn, .int .i64 mt, dv, .int .i64 ph, .int .i64 fn, .int .i64 fm.a, .int .i64 fm.b, .int .i64 fm.c, .int .i64 fm.d, .int .i64 fm.x, .int .i64 fm.y, cv, .bool dk, pp, .int .i64 most, .int .i64 segs, sv]) : W.rangeAt b 0 #[.int .i64 cm.a, .int .i64 cm.b, .int .i64 cm.c, .int .i64 cm.d, .int .i64 cm.x, .int .i64 cm.y].toList := fun j v hj => by
  rw [Nat.zero_add]
  refine h.cell j ?_
  match j, hj with
  | 0, hj => exact hj
  | 1, hj => exact hj
  | 2, hj => exact hj
  | 3, hj => exact hj
  | 4, hj => exact hj
  | 5, hj => exact hj
  | j + 6, hj => simp at hj
set_option maxRecDepth 8000 in
set_option maxHeartbeats 2000000 in
theorem concat_ok (cm : M6) (sp p0 p1 p2 p3 wd cp jn mt : Int) (dv : Value) (ph fn : Int) (fm : M6) (cv : Value) (dk : Bool) (pp : Value) (most segs : Int) (sv : Value) (b : Nat) (m c2 : M6) (e : Int) (w : World) (h : Row w b #[.int .i64 cm.a, .int .i64 cm.b, .int .i64 cm.c, .int .i64 cm.d, .int .i64 cm.x, .int .i64 cm.y, .int .i64 sp, .int .i64 p0, .int .i64 p1, .int .i64 p2, .int .i64 p3, .int .i64 wd, .int .i64 cp, .int .i64 jn, .int .i64 mt, dv, .int .i64 ph, .int .i64 fn, .int .i64 fm.a, .int .i64 fm.b, .int .i64 fm.c, .int .i64 fm.d, .int .i64 fm.x, .int .i64 fm.y, cv, .bool dk, pp, .int .i64 most, .int .i64 segs, sv]) (hv : Gs.chk (l6 m) = 0) (hC : MatM.concat ⟨m.a, m.b, m.c, m.d, m.x, m.y⟩ ⟨cm.a, cm.b, cm.c, cm.d, cm.x, cm.y⟩ = (c2, e)) (he : (e == 0) = true) (h4 : (Lit.int .i64 cm.x).wf = true) (h5 : (Lit.int .i64 cm.y).wf = true) :
    Calls Tryd.prog 25 #[.pointer (some ⟨b, 0, none⟩), .agg #[.int .i64 m.a, .int .i64 m.b, .int .i64 m.c, .int .i64 m.d, .int .i64 m.x, .int .i64 m.y]] w fun E w' => E = .returned (.int .i64 e) ∧ Row w' b #[.int .i64 c2.a, .int .i64 c2.b, .int .i64 c2.c, .int .i64 c2.d, .int .i64 c2.x, .int .i64 c2.y, .int .i64 sp, .int .i64 p0, .int .i64 p1, .int .i64 p2, .int .i64 p3, .int .i64 wd, .int .i64 cp, .int .i64 jn, .int .i64 mt, dv, .int .i64 ph, .int .i64 fn, .int .i64 fm.a, .int .i64 fm.b, .int .i64 fm.c, .int .i64 fm.d, .int .i64 fm.x, .int .i64 fm.y, cv, .bool dk, pp, .int .i64 most, .int .i64 segs, sv] ∧ Chg [b] w w' := by
  have HR := Lib.hid h
  have HV := Lib.hid hv
  have HC := Lib.hid hC
  have hlt := h.lt
  clear h hv hC
  go_enter Tryd.func25, Tryd.ntmps25
  go_upto_region 4 with (go_at_call 45; ((with_reducible refine (Gs.check_calls ⟨b, 0, none⟩ (l6 m) 6 w.heap.size 0 6 rfl _ (by decide) (ints_row (cs := #[.int .i64 m.a, .int .i64 m.b, .int .i64 m.c, .int .i64 m.d, .int .i64 m.x, .int .i64 m.y]) (by (repeat' (with_reducible first | assumption | (refine Row.at _ _ ?_; (simp; done)) | refine Row.alloc ?_ _ | refine Row.drew ?_ | refine Row.drewN ?_ _ | refine Row.other ?_ (by first | (simp; done) | (simp; omega) | omega) _ | refine Row.up ?_ (by assumption) | refine Row.chg ?_ (by assumption) (by first | (simp; done) | (simp; omega))))) rfl) (by simp)).mono ?_); rw [HV.out]; rintro E w1 ⟨rfl, hu1⟩; have z1 := hu1.size; (try simp at z1); have RB : Row w1 b #[.int .i64 cm.a, .int .i64 cm.b, .int .i64 cm.c, .int .i64 cm.d, .int .i64 cm.x, .int .i64 cm.y, .int .i64 sp, .int .i64 p0, .int .i64 p1, .int .i64 p2, .int .i64 p3, .int .i64 wd, .int .i64 cp, .int .i64 jn, .int .i64 mt, dv, .int .i64 ph, .int .i64 fn, .int .i64 fm.a, .int .i64 fm.b, .int .i64 fm.c, .int .i64 fm.d, .int .i64 fm.x, .int .i64 fm.y, cv, .bool dk, pp, .int .i64 most, .int .i64 segs, sv] := Row.up (show Row _ b #[.int .i64 cm.a, .int .i64 cm.b, .int .i64 cm.c, .int .i64 cm.d, .int .i64 cm.x, .int .i64 cm.y, .int .i64 sp, .int .i64 p0, .int .i64 p1, .int .i64 p2, .int .i64 p3, .int .i64 wd, .int .i64 cp, .int .i64 jn, .int .i64 mt, dv, .int .i64 ph, .int .i64 fn, .int .i64 fm.a, .int .i64 fm.b, .int .i64 fm.c, .int .i64 fm.d, .int .i64 fm.x, .int .i64 fm.y, cv, .bool dk, pp, .int .i64 most, .int .i64 segs, sv] from HR.out.alloc _) hu1; have RB_lt := RB.lt; have RM : Row w1 w.heap.size #[.int .i64 m.a, .int .i64 m.b, .int .i64 m.c, .int .i64 m.d, .int .i64 m.x, .int .i64 m.y] := Row.up (show Row _ w.heap.size #[.int .i64 m.a, .int .i64 m.b, .int .i64 m.c, .int .i64 m.d, .int .i64 m.x, .int .i64 m.y] by (repeat' (with_reducible first | assumption | (refine Row.at _ _ ?_; (simp; done)) | refine Row.alloc ?_ _ | refine Row.drew ?_ | refine Row.drewN ?_ _ | refine Row.other ?_ (by first | (simp; done) | (simp; omega) | omega) _ | refine Row.up ?_ (by assumption) | refine Row.chg ?_ (by assumption) (by first | (simp; done) | (simp; omega))))) hu1; ))
  refine wp_region_held_drew (S := fun w' => Row w' b #[.int .i64 cm.a, .int .i64 cm.b, .int .i64 cm.c, .int .i64 cm.d, .int .i64 cm.x, .int .i64 cm.y, .int .i64 sp, .int .i64 p0, .int .i64 p1, .int .i64 p2, .int .i64 p3, .int .i64 wd, .int .i64 cp, .int .i64 jn, .int .i64 mt, dv, .int .i64 ph, .int .i64 fn, .int .i64 fm.a, .int .i64 fm.b, .int .i64 fm.c, .int .i64 fm.d, .int .i64 fm.x, .int .i64 fm.y, cv, .bool dk, pp, .int .i64 most, .int .i64 segs, sv] ∧ Row w' w.heap.size #[.int .i64 m.a, .int .i64 m.b, .int .i64 m.c, .int .i64 m.d, .int .i64 m.x, .int .i64 m.y]) (by kernel_rfl) ?_ (fun hHeld => ?_)
  · exact ⟨by (repeat' (with_reducible first | assumption | (refine Row.at _ _ ?_; (simp; done)) | refine Row.alloc ?_ _ | refine Row.drew ?_ | refine Row.drewN ?_ _ | refine Row.other ?_ (by first | (simp; done) | (simp; omega) | omega) _ | refine Row.up ?_ (by assumption) | refine Row.chg ?_ (by assumption) (by first | (simp; done) | (simp; omega)))), by (repeat' (with_reducible first | assumption | (refine Row.at _ _ ?_; (simp; done)) | refine Row.alloc ?_ _ | refine Row.drew ?_ | refine Row.drewN ?_ _ | refine Row.other ?_ (by first | (simp; done) | (simp; omega) | omega) _ | refine Row.up ?_ (by assumption) | refine Row.chg ?_ (by assumption) (by first | (simp; done) | (simp; omega))))⟩
  refine wpAnyH_take (i := 0) rfl (by decide +kernel) (by decide +kernel) (by decide +kernel) (fun _ _ _ h => h) (yieldsIf_load_mid (by rfl) 26 (.tmp 3) rfl w.heap.size 0 rfl #[.int .i64 m.a, .int .i64 m.b, .int .i64 m.c, .int .i64 m.d, .int .i64 m.x, .int .i64 m.y].toList _ (fun _ h => rng_all h.2) Tryd.underlying26 rfl (by exact info6)) (by assumption) ?_
  (try simp only [Act.put, lga, lgz, lgs, lsa, lsz, lss])
  refine wpAnyH_take (i := 1) (v := ?_) rfl (by decide +kernel) (by decide +kernel) (by decide +kernel) (fun _ _ _ h => h) (Or.inl ⟨by rfl, ?_⟩) (by assumption) ?_
  rotate_left
  · intro w2 hSw
    (try dsimp only at hSw)
    go_simp
    (try (with_reducible rfl))
  (try simp only [Act.put, lga, lgz, lgs, lsa, lsz, lss])
  refine wpAnyH_take (i := 2) (v := ?_) rfl (by decide +kernel) (by decide +kernel) (by decide +kernel) (fun _ _ _ h => h) (Or.inl ⟨by rfl, ?_⟩) (by assumption) ?_
  rotate_left
  · intro w2 hSw
    (try dsimp only at hSw)
    go_simp
    (try (with_reducible rfl))
  (try simp only [Act.put, lga, lgz, lgs, lsa, lsz, lss])
  refine wpAnyH_take (i := 3) (v := ?_) rfl (by decide +kernel) (by decide +kernel) (by decide +kernel) (fun _ _ _ h => h) (Or.inl ⟨by rfl, ?_⟩) (by assumption) ?_
  rotate_left
  · intro w2 hSw
    (try dsimp only at hSw)
    go_simp
    (try (with_reducible rfl))
  (try simp only [Act.put, lga, lgz, lgs, lsa, lsz, lss])
  refine wpAnyH_take (i := 4) (v := ?_) rfl (by decide +kernel) (by decide +kernel) (by decide +kernel) (fun _ _ _ h => h) (Or.inl ⟨by rfl, ?_⟩) (by assumption) ?_
  rotate_left
  · intro w2 hSw
    (try dsimp only at hSw)
    go_simp
    (try (with_reducible rfl))
  (try simp only [Act.put, lga, lgz, lgs, lsa, lsz, lss])
  refine wpAnyH_take (i := 5) (v := ?_) rfl (by decide +kernel) (by decide +kernel) (by decide +kernel) (fun _ _ _ h => h) (Or.inl ⟨by rfl, ?_⟩) (by assumption) ?_
  rotate_left
  · intro w2 hSw
    (try dsimp only at hSw)
    go_simp
    (try (with_reducible rfl))
  (try simp only [Act.put, lga, lgz, lgs, lsa, lsz, lss])
  refine wpAnyH_take (i := 6) rfl (by decide +kernel) (by decide +kernel) (by decide +kernel) (fun _ _ _ h => h) (yieldsIf_load_mid (by rfl) 26 (.tmp 20) rfl b 0 rfl #[.int .i64 cm.a, .int .i64 cm.b, .int .i64 cm.c, .int .i64 cm.d, .int .i64 cm.x, .int .i64 cm.y].toList _ (fun _ h => row_ctm h.1) Tryd.underlying26 rfl (by exact info6)) (by assumption) ?_
  (try simp only [Act.put, lga, lgz, lgs, lsa, lsz, lss])
  refine wpAnyH_ready (rs := [7, 11]) (by decide +kernel) (by simp) ?_
  refine AllReadyH.cons rfl (fun K hK => ?_) (AllReadyH.cons rfl (fun K hK => ?_) (AllReadyH.nil))
  · skip
    (try simp only [lga, lgz, lgs])
    (go_simp; go_at_call 46; (with_reducible refine (Mat2.concat_calls m.a m.b m.c m.d m.x m.y cm.a cm.b cm.c cm.d cm.x cm.y _ h4 h5).mono ?_); rw [HC.out]; rintro E w2 ⟨rfl, hu2⟩; have z_w2 := hu2.size; (try simp at z_w2); have RB_w2 : Row w2 b #[.int .i64 cm.a, .int .i64 cm.b, .int .i64 cm.c, .int .i64 cm.d, .int .i64 cm.x, .int .i64 cm.y, .int .i64 sp, .int .i64 p0, .int .i64 p1, .int .i64 p2, .int .i64 p3, .int .i64 wd, .int .i64 cp, .int .i64 jn, .int .i64 mt, dv, .int .i64 ph, .int .i64 fn, .int .i64 fm.a, .int .i64 fm.b, .int .i64 fm.c, .int .i64 fm.d, .int .i64 fm.x, .int .i64 fm.y, cv, .bool dk, pp, .int .i64 most, .int .i64 segs, sv] := Row.up (show Row _ b #[.int .i64 cm.a, .int .i64 cm.b, .int .i64 cm.c, .int .i64 cm.d, .int .i64 cm.x, .int .i64 cm.y, .int .i64 sp, .int .i64 p0, .int .i64 p1, .int .i64 p2, .int .i64 p3, .int .i64 wd, .int .i64 cp, .int .i64 jn, .int .i64 mt, dv, .int .i64 ph, .int .i64 fn, .int .i64 fm.a, .int .i64 fm.b, .int .i64 fm.c, .int .i64 fm.d, .int .i64 fm.x, .int .i64 fm.y, cv, .bool dk, pp, .int .i64 most, .int .i64 segs, sv] from (by (repeat' (with_reducible first | assumption | (refine Row.at _ _ ?_; (simp; done)) | refine Row.alloc ?_ _ | refine Row.drew ?_ | refine Row.drewN ?_ _ | refine Row.other ?_ (by first | (simp; done) | (simp; omega) | omega) _ | refine Row.up ?_ (by assumption) | refine Row.chg ?_ (by assumption) (by first | (simp; done) | (simp; omega)))))) hu2; have RM_w2 : Row w2 w.heap.size #[.int .i64 m.a, .int .i64 m.b, .int .i64 m.c, .int .i64 m.d, .int .i64 m.x, .int .i64 m.y] := Row.up (show Row _ w.heap.size #[.int .i64 m.a, .int .i64 m.b, .int .i64 m.c, .int .i64 m.d, .int .i64 m.x, .int .i64 m.y] from (by (repeat' (with_reducible first | assumption | (refine Row.at _ _ ?_; (simp; done)) | refine Row.alloc ?_ _ | refine Row.drew ?_ | refine Row.drewN ?_ _ | refine Row.other ?_ (by first | (simp; done) | (simp; omega) | omega) _ | refine Row.up ?_ (by assumption) | refine Row.chg ?_ (by assumption) (by first | (simp; done) | (simp; omega)))))) hu2; (try dsimp only))
    refine hK.out _ _ ?_ (fun hHeld => ?_)
    · exact ⟨RB_w2, RM_w2⟩
    clear hK K
    (try simp only [Act.put, lga, lgz, lgs, lsa, lsz, lss])
    refine wpAnyH_take (i := 8) (v := ?_) rfl (by decide +kernel) (by decide +kernel) (by decide +kernel) (fun _ _ _ h => h) (Or.inl ⟨by rfl, ?_⟩) (by assumption) ?_
    rotate_left
    · intro w2 hSw
      (try dsimp only at hSw)
      go_simp
      (try (with_reducible rfl))
    (try simp only [Act.put, lga, lgz, lgs, lsa, lsz, lss])
    refine wpAnyH_take (i := 9) (v := ?_) rfl (by decide +kernel) (by decide +kernel) (by decide +kernel) (fun _ _ _ h => h) (Or.inl ⟨by rfl, ?_⟩) (by assumption) ?_
    rotate_left
    · intro w2 hSw
      (try dsimp only at hSw)
      go_simp
      (try (with_reducible rfl))
    (try simp only [Act.put, lga, lgz, lgs, lsa, lsz, lss])
    refine wpAnyH_take (i := 10) (v := ?_) rfl (by decide +kernel) (by decide +kernel) (by decide +kernel) (fun _ _ _ h => h) (Or.inl ⟨by rfl, ?_⟩) (by assumption) ?_
    rotate_left
    · intro w2 hSw
      (try dsimp only at hSw)
      go_simp
      (try (with_reducible rfl))
    (try simp only [Act.put, lga, lgz, lgs, lsa, lsz, lss])
    refine wpAnyH_ready (rs := [11]) (by decide +kernel) (by simp) ?_
    refine AllReadyH.cons rfl (fun K hK => ?_) (AllReadyH.nil)
    (try simp only [lga, lgz, lgs])
    (go_simp)
    refine hK.out _ _ ?_ (fun hHeld => ?_)
    · exact ⟨by (repeat' (with_reducible first | assumption | (refine Row.at _ _ ?_; (simp; done)) | refine Row.alloc ?_ _ | refine Row.drew ?_ | refine Row.drewN ?_ _ | refine Row.other ?_ (by first | (simp; done) | (simp; omega) | omega) _ | refine Row.up ?_ (by assumption) | refine Row.chg ?_ (by assumption) (by first | (simp; done) | (simp; omega)))), by (repeat' (with_reducible first | assumption | (refine Row.at _ _ ?_; (simp; done)) | refine Row.alloc ?_ _ | refine Row.drew ?_ | refine Row.drewN ?_ _ | refine Row.other ?_ (by first | (simp; done) | (simp; omega) | omega) _ | refine Row.up ?_ (by assumption) | refine Row.chg ?_ (by assumption) (by first | (simp; done) | (simp; omega))))⟩
    clear hK K
    (try simp only [Act.put, lga, lgz, lgs, lsa, lsz, lss])
    refine wpAnyH_ready (rs := [12]) (by decide +kernel) (by simp) ?_
    refine AllReadyH.cons rfl (fun K hK => ?_) (AllReadyH.nil)
    (try simp only [lga, lgz, lgs])
    (rw [if_pos (by rfl)]; refine Gs.wp_store_Row 26 (.tmp 6) (.tmp 23) rfl (w2.heap.size) #[.int .i64 c2.a, .int .i64 c2.b, .int .i64 c2.c, .int .i64 c2.d, .int .i64 c2.x, .int .i64 c2.y] rfl rfl #[.int .i64 0, .int .i64 0, .int .i64 0, .int .i64 0, .int .i64 0, .int .i64 0] (show Row _ w2.heap.size #[.int .i64 0, .int .i64 0, .int .i64 0, .int .i64 0, .int .i64 0, .int .i64 0] from (by (repeat' (with_reducible first | assumption | (refine Row.at _ _ ?_; (simp; done)) | refine Row.alloc ?_ _ | refine Row.drew ?_ | refine Row.drewN ?_ _ | refine Row.other ?_ (by first | (simp; done) | (simp; omega) | omega) _ | refine Row.up ?_ (by assumption) | refine Row.chg ?_ (by assumption) (by first | (simp; done) | (simp; omega)))))) info6 rfl rfl (by simp [Value.oneCell']) ?_); intro w9 hr9 hc9; have RB9 : Row w9 b #[.int .i64 cm.a, .int .i64 cm.b, .int .i64 cm.c, .int .i64 cm.d, .int .i64 cm.x, .int .i64 cm.y, .int .i64 sp, .int .i64 p0, .int .i64 p1, .int .i64 p2, .int .i64 p3, .int .i64 wd, .int .i64 cp, .int .i64 jn, .int .i64 mt, dv, .int .i64 ph, .int .i64 fn, .int .i64 fm.a, .int .i64 fm.b, .int .i64 fm.c, .int .i64 fm.d, .int .i64 fm.x, .int .i64 fm.y, cv, .bool dk, pp, .int .i64 most, .int .i64 segs, sv] := Row.chg (show Row _ b #[.int .i64 cm.a, .int .i64 cm.b, .int .i64 cm.c, .int .i64 cm.d, .int .i64 cm.x, .int .i64 cm.y, .int .i64 sp, .int .i64 p0, .int .i64 p1, .int .i64 p2, .int .i64 p3, .int .i64 wd, .int .i64 cp, .int .i64 jn, .int .i64 mt, dv, .int .i64 ph, .int .i64 fn, .int .i64 fm.a, .int .i64 fm.b, .int .i64 fm.c, .int .i64 fm.d, .int .i64 fm.x, .int .i64 fm.y, cv, .bool dk, pp, .int .i64 most, .int .i64 segs, sv] from (by (repeat' (with_reducible first | assumption | (refine Row.at _ _ ?_; (simp; done)) | refine Row.alloc ?_ _ | refine Row.drew ?_ | refine Row.drewN ?_ _ | refine Row.other ?_ (by first | (simp; done) | (simp; omega) | omega) _ | refine Row.up ?_ (by assumption) | refine Row.chg ?_ (by assumption) (by first | (simp; done) | (simp; omega)))))) hc9 (by simp; omega); have RM9 : Row w9 w.heap.size #[.int .i64 m.a, .int .i64 m.b, .int .i64 m.c, .int .i64 m.d, .int .i64 m.x, .int .i64 m.y] := Row.chg (show Row _ w.heap.size #[.int .i64 m.a, .int .i64 m.b, .int .i64 m.c, .int .i64 m.d, .int .i64 m.x, .int .i64 m.y] from (by (repeat' (with_reducible first | assumption | (refine Row.at _ _ ?_; (simp; done)) | refine Row.alloc ?_ _ | refine Row.drew ?_ | refine Row.drewN ?_ _ | refine Row.other ?_ (by first | (simp; done) | (simp; omega) | omega) _ | refine Row.up ?_ (by assumption) | refine Row.chg ?_ (by assumption) (by first | (simp; done) | (simp; omega)))))) hc9 (by simp; omega)
    refine hK.out _ _ ?_ (fun hHeld => ?_)
    · exact ⟨RB9, RM9⟩
    clear hK K
    (try simp only [Act.put, lga, lgz, lgs, lsa, lsz, lss])
    refine wpAnyH_take (i := 13) (v := ?_) rfl (by decide +kernel) (by decide +kernel) (by decide +kernel) (fun _ _ _ h => h) (Or.inl ⟨by rfl, ?_⟩) (by assumption) ?_
    rotate_left
    · intro w2 hSw
      (try dsimp only at hSw)
      go_simp
      (try (with_reducible rfl))
    (try simp only [Act.put, lga, lgz, lgs, lsa, lsz, lss])
    refine wpAnyH_done (by decide +kernel) ?_ _
    have h9l := hr9.lt
    have RB9l := RB9.lt
    have rb0 := RB9.cell 0 rfl
    have rbf0 := RB9.free 0
    have rb1 := RB9.cell 1 rfl
    have rbf1 := RB9.free 1
    have rb2 := RB9.cell 2 rfl
    have rbf2 := RB9.free 2
    have rb3 := RB9.cell 3 rfl
    have rbf3 := RB9.free 3
    have rb4 := RB9.cell 4 rfl
    have rbf4 := RB9.free 4
    have rb5 := RB9.cell 5 rfl
    have rbf5 := RB9.free 5
    go_wp2_with (first | (refine wpList_load_Row rfl 26 (.tmp 6) rfl (w2.heap.size) rfl #[.int .i64 c2.a, .int .i64 c2.b, .int .i64 c2.c, .int .i64 c2.d, .int .i64 c2.x, .int .i64 c2.y] _ hr9 Tryd.underlying26 rfl info6 rfl ?_))
    go_ret
    exact ⟨rfl, (by apply cast; (case h => (repeat (first | (with_reducible first | assumption | (apply Row.at; (simp; done)) | apply Row.alloc | apply Row.drew | apply Row.drewN | apply Row.set) | ((with_reducible apply Row.other); (case hp => first | (simp; done) | (simp; omega) | omega))))); (case e => rfl)), by (repeat' (first | (with_reducible first | exact Chg.refl _ _ | assumption | refine Chg.alloc ?_ _ | refine Chg.drew ?_ | refine Chg.drewN ?_ _ | refine Chg.setCell ?_ ?_ _ | refine Chg.upc ?_ (by assumption) | refine Chg.call ?_ (by assumption) ?_) | (refine Or.inl ?_; (simp; done)) | (simp; done) | (simp; omega) | omega))⟩
  · skip
    (try simp only [lga, lgz, lgs])
    (go_simp)
    refine hK.out _ _ ?_ (fun hHeld => ?_)
    · exact ⟨by (repeat' (with_reducible first | assumption | (refine Row.at _ _ ?_; (simp; done)) | refine Row.alloc ?_ _ | refine Row.drew ?_ | refine Row.drewN ?_ _ | refine Row.other ?_ (by first | (simp; done) | (simp; omega) | omega) _ | refine Row.up ?_ (by assumption) | refine Row.chg ?_ (by assumption) (by first | (simp; done) | (simp; omega)))), by (repeat' (with_reducible first | assumption | (refine Row.at _ _ ?_; (simp; done)) | refine Row.alloc ?_ _ | refine Row.drew ?_ | refine Row.drewN ?_ _ | refine Row.other ?_ (by first | (simp; done) | (simp; omega) | omega) _ | refine Row.up ?_ (by assumption) | refine Row.chg ?_ (by assumption) (by first | (simp; done) | (simp; omega))))⟩
    clear hK K
    (try simp only [Act.put, lga, lgz, lgs, lsa, lsz, lss])
    refine wpAnyH_ready (rs := [7]) (by decide +kernel) (by simp) ?_
    refine AllReadyH.cons rfl (fun K hK => ?_) (AllReadyH.nil)
    (try simp only [lga, lgz, lgs])
    (go_simp; go_at_call 46; (with_reducible refine (Mat2.concat_calls m.a m.b m.c m.d m.x m.y cm.a cm.b cm.c cm.d cm.x cm.y _ h4 h5).mono ?_); rw [HC.out]; rintro E w2 ⟨rfl, hu2⟩; have z_w2 := hu2.size; (try simp at z_w2); have RB_w2 : Row w2 b #[.int .i64 cm.a, .int .i64 cm.b, .int .i64 cm.c, .int .i64 cm.d, .int .i64 cm.x, .int .i64 cm.y, .int .i64 sp, .int .i64 p0, .int .i64 p1, .int .i64 p2, .int .i64 p3, .int .i64 wd, .int .i64 cp, .int .i64 jn, .int .i64 mt, dv, .int .i64 ph, .int .i64 fn, .int .i64 fm.a, .int .i64 fm.b, .int .i64 fm.c, .int .i64 fm.d, .int .i64 fm.x, .int .i64 fm.y, cv, .bool dk, pp, .int .i64 most, .int .i64 segs, sv] := Row.up (show Row _ b #[.int .i64 cm.a, .int .i64 cm.b, .int .i64 cm.c, .int .i64 cm.d, .int .i64 cm.x, .int .i64 cm.y, .int .i64 sp, .int .i64 p0, .int .i64 p1, .int .i64 p2, .int .i64 p3, .int .i64 wd, .int .i64 cp, .int .i64 jn, .int .i64 mt, dv, .int .i64 ph, .int .i64 fn, .int .i64 fm.a, .int .i64 fm.b, .int .i64 fm.c, .int .i64 fm.d, .int .i64 fm.x, .int .i64 fm.y, cv, .bool dk, pp, .int .i64 most, .int .i64 segs, sv] from (by (repeat' (with_reducible first | assumption | (refine Row.at _ _ ?_; (simp; done)) | refine Row.alloc ?_ _ | refine Row.drew ?_ | refine Row.drewN ?_ _ | refine Row.other ?_ (by first | (simp; done) | (simp; omega) | omega) _ | refine Row.up ?_ (by assumption) | refine Row.chg ?_ (by assumption) (by first | (simp; done) | (simp; omega)))))) hu2; have RM_w2 : Row w2 w.heap.size #[.int .i64 m.a, .int .i64 m.b, .int .i64 m.c, .int .i64 m.d, .int .i64 m.x, .int .i64 m.y] := Row.up (show Row _ w.heap.size #[.int .i64 m.a, .int .i64 m.b, .int .i64 m.c, .int .i64 m.d, .int .i64 m.x, .int .i64 m.y] from (by (repeat' (with_reducible first | assumption | (refine Row.at _ _ ?_; (simp; done)) | refine Row.alloc ?_ _ | refine Row.drew ?_ | refine Row.drewN ?_ _ | refine Row.other ?_ (by first | (simp; done) | (simp; omega) | omega) _ | refine Row.up ?_ (by assumption) | refine Row.chg ?_ (by assumption) (by first | (simp; done) | (simp; omega)))))) hu2; have RN_w2 : Row w2 w1.heap.size #[.int .i64 0, .int .i64 0, .int .i64 0, .int .i64 0, .int .i64 0, .int .i64 0] := Row.up (show Row _ w1.heap.size #[.int .i64 0, .int .i64 0, .int .i64 0, .int .i64 0, .int .i64 0, .int .i64 0] from (by (repeat' (with_reducible first | assumption | (refine Row.at _ _ ?_; (simp; done)) | refine Row.alloc ?_ _ | refine Row.drew ?_ | refine Row.drewN ?_ _ | refine Row.other ?_ (by first | (simp; done) | (simp; omega) | omega) _ | refine Row.up ?_ (by assumption) | refine Row.chg ?_ (by assumption) (by first | (simp; done) | (simp; omega)))))) hu2; (try dsimp only))
    refine hK.out _ _ ?_ (fun hHeld => ?_)
    · exact ⟨RB_w2, RM_w2⟩
    clear hK K
    (try simp only [Act.put, lga, lgz, lgs, lsa, lsz, lss])
    refine wpAnyH_take (i := 8) (v := ?_) rfl (by decide +kernel) (by decide +kernel) (by decide +kernel) (fun _ _ _ h => h) (Or.inl ⟨by rfl, ?_⟩) (by assumption) ?_
    rotate_left
    · intro w2 hSw
      (try dsimp only at hSw)
      go_simp
      (try (with_reducible rfl))
    (try simp only [Act.put, lga, lgz, lgs, lsa, lsz, lss])
    refine wpAnyH_take (i := 9) (v := ?_) rfl (by decide +kernel) (by decide +kernel) (by decide +kernel) (fun _ _ _ h => h) (Or.inl ⟨by rfl, ?_⟩) (by assumption) ?_
    rotate_left
    · intro w2 hSw
      (try dsimp only at hSw)
      go_simp
      (try (with_reducible rfl))
    (try simp only [Act.put, lga, lgz, lgs, lsa, lsz, lss])
    refine wpAnyH_take (i := 10) (v := ?_) rfl (by decide +kernel) (by decide +kernel) (by decide +kernel) (fun _ _ _ h => h) (Or.inl ⟨by rfl, ?_⟩) (by assumption) ?_
    rotate_left
    · intro w2 hSw
      (try dsimp only at hSw)
      go_simp
      (try (with_reducible rfl))
    (try simp only [Act.put, lga, lgz, lgs, lsa, lsz, lss])
    refine wpAnyH_ready (rs := [12]) (by decide +kernel) (by simp) ?_
    refine AllReadyH.cons rfl (fun K hK => ?_) (AllReadyH.nil)
    (try simp only [lga, lgz, lgs])
    (rw [if_pos (by rfl)]; refine Gs.wp_store_Row 26 (.tmp 6) (.tmp 23) rfl (w1.heap.size) #[.int .i64 c2.a, .int .i64 c2.b, .int .i64 c2.c, .int .i64 c2.d, .int .i64 c2.x, .int .i64 c2.y] rfl rfl #[.int .i64 0, .int .i64 0, .int .i64 0, .int .i64 0, .int .i64 0, .int .i64 0] RN_w2 info6 rfl rfl (by simp [Value.oneCell']) ?_); intro w9 hr9 hc9; have RB9 : Row w9 b #[.int .i64 cm.a, .int .i64 cm.b, .int .i64 cm.c, .int .i64 cm.d, .int .i64 cm.x, .int .i64 cm.y, .int .i64 sp, .int .i64 p0, .int .i64 p1, .int .i64 p2, .int .i64 p3, .int .i64 wd, .int .i64 cp, .int .i64 jn, .int .i64 mt, dv, .int .i64 ph, .int .i64 fn, .int .i64 fm.a, .int .i64 fm.b, .int .i64 fm.c, .int .i64 fm.d, .int .i64 fm.x, .int .i64 fm.y, cv, .bool dk, pp, .int .i64 most, .int .i64 segs, sv] := Row.chg (show Row _ b #[.int .i64 cm.a, .int .i64 cm.b, .int .i64 cm.c, .int .i64 cm.d, .int .i64 cm.x, .int .i64 cm.y, .int .i64 sp, .int .i64 p0, .int .i64 p1, .int .i64 p2, .int .i64 p3, .int .i64 wd, .int .i64 cp, .int .i64 jn, .int .i64 mt, dv, .int .i64 ph, .int .i64 fn, .int .i64 fm.a, .int .i64 fm.b, .int .i64 fm.c, .int .i64 fm.d, .int .i64 fm.x, .int .i64 fm.y, cv, .bool dk, pp, .int .i64 most, .int .i64 segs, sv] from (by (repeat' (with_reducible first | assumption | (refine Row.at _ _ ?_; (simp; done)) | refine Row.alloc ?_ _ | refine Row.drew ?_ | refine Row.drewN ?_ _ | refine Row.other ?_ (by first | (simp; done) | (simp; omega) | omega) _ | refine Row.up ?_ (by assumption) | refine Row.chg ?_ (by assumption) (by first | (simp; done) | (simp; omega)))))) hc9 (by simp; omega); have RM9 : Row w9 w.heap.size #[.int .i64 m.a, .int .i64 m.b, .int .i64 m.c, .int .i64 m.d, .int .i64 m.x, .int .i64 m.y] := Row.chg (show Row _ w.heap.size #[.int .i64 m.a, .int .i64 m.b, .int .i64 m.c, .int .i64 m.d, .int .i64 m.x, .int .i64 m.y] from (by (repeat' (with_reducible first | assumption | (refine Row.at _ _ ?_; (simp; done)) | refine Row.alloc ?_ _ | refine Row.drew ?_ | refine Row.drewN ?_ _ | refine Row.other ?_ (by first | (simp; done) | (simp; omega) | omega) _ | refine Row.up ?_ (by assumption) | refine Row.chg ?_ (by assumption) (by first | (simp; done) | (simp; omega)))))) hc9 (by simp; omega)
    refine hK.out _ _ ?_ (fun hHeld => ?_)
    · exact ⟨RB9, RM9⟩
    clear hK K
    (try simp only [Act.put, lga, lgz, lgs, lsa, lsz, lss])
    refine wpAnyH_take (i := 13) (v := ?_) rfl (by decide +kernel) (by decide +kernel) (by decide +kernel) (fun _ _ _ h => h) (Or.inl ⟨by rfl, ?_⟩) (by assumption) ?_
    rotate_left
    · intro w2 hSw
      (try dsimp only at hSw)
      go_simp
      (try (with_reducible rfl))
    (try simp only [Act.put, lga, lgz, lgs, lsa, lsz, lss])
    refine wpAnyH_done (by decide +kernel) ?_ _
    have h9l := hr9.lt
    have RB9l := RB9.lt
    have rb0 := RB9.cell 0 rfl
    have rbf0 := RB9.free 0
    have rb1 := RB9.cell 1 rfl
    have rbf1 := RB9.free 1
    have rb2 := RB9.cell 2 rfl
    have rbf2 := RB9.free 2
    have rb3 := RB9.cell 3 rfl
    have rbf3 := RB9.free 3
    have rb4 := RB9.cell 4 rfl
    have rbf4 := RB9.free 4
    have rb5 := RB9.cell 5 rfl
    have rbf5 := RB9.free 5
    go_wp2_with (first | (refine wpList_load_Row rfl 26 (.tmp 6) rfl (w1.heap.size) rfl #[.int .i64 c2.a, .int .i64 c2.b, .int .i64 c2.c, .int .i64 c2.d, .int .i64 c2.x, .int .i64 c2.y] _ hr9 Tryd.underlying26 rfl info6 rfl ?_))
    go_ret
    exact ⟨rfl, (by apply cast; (case h => (repeat (first | (with_reducible first | assumption | (apply Row.at; (simp; done)) | apply Row.alloc | apply Row.drew | apply Row.drewN | apply Row.set) | ((with_reducible apply Row.other); (case hp => first | (simp; done) | (simp; omega) | omega))))); (case e => rfl)), by (repeat' (first | (with_reducible first | exact Chg.refl _ _ | assumption | refine Chg.alloc ?_ _ | refine Chg.drew ?_ | refine Chg.drewN ?_ _ | refine Chg.setCell ?_ ?_ _ | refine Chg.upc ?_ (by assumption) | refine Chg.call ?_ (by assumption) ?_) | (refine Or.inl ?_; (simp; done)) | (simp; done) | (simp; omega) | omega))⟩

set_option maxRecDepth 8000 in
set_option maxHeartbeats 2000000 in
theorem concat_err (cm : M6) (sp p0 p1 p2 p3 wd cp jn mt : Int) (dv : Value) (ph fn : Int) (fm : M6) (cv : Value) (dk : Bool) (pp : Value) (most segs : Int) (sv : Value) (b : Nat) (m c2 : M6) (e : Int) (w : World) (h : Row w b #[.int .i64 cm.a, .int .i64 cm.b, .int .i64 cm.c, .int .i64 cm.d, .int .i64 cm.x, .int .i64 cm.y, .int .i64 sp, .int .i64 p0, .int .i64 p1, .int .i64 p2, .int .i64 p3, .int .i64 wd, .int .i64 cp, .int .i64 jn, .int .i64 mt, dv, .int .i64 ph, .int .i64 fn, .int .i64 fm.a, .int .i64 fm.b, .int .i64 fm.c, .int .i64 fm.d, .int .i64 fm.x, .int .i64 fm.y, cv, .bool dk, pp, .int .i64 most, .int .i64 segs, sv]) (hv : Gs.chk (l6 m) = 0) (hC : MatM.concat ⟨m.a, m.b, m.c, m.d, m.x, m.y⟩ ⟨cm.a, cm.b, cm.c, cm.d, cm.x, cm.y⟩ = (c2, e)) (he : (e == 0) = false) (h4 : (Lit.int .i64 cm.x).wf = true) (h5 : (Lit.int .i64 cm.y).wf = true) :
    Calls Tryd.prog 25 #[.pointer (some ⟨b, 0, none⟩), .agg #[.int .i64 m.a, .int .i64 m.b, .int .i64 m.c, .int .i64 m.d, .int .i64 m.x, .int .i64 m.y]] w fun E w' => E = .returned (.int .i64 e) ∧ Up w w' := by
  have HR := Lib.hid h
  have HV := Lib.hid hv
  have HC := Lib.hid hC
  have hlt := h.lt
  clear h hv hC
  go_enter Tryd.func25, Tryd.ntmps25
  go_upto_region 4 with (go_at_call 45; ((with_reducible refine (Gs.check_calls ⟨b, 0, none⟩ (l6 m) 6 w.heap.size 0 6 rfl _ (by decide) (ints_row (cs := #[.int .i64 m.a, .int .i64 m.b, .int .i64 m.c, .int .i64 m.d, .int .i64 m.x, .int .i64 m.y]) (by (repeat' (with_reducible first | assumption | (refine Row.at _ _ ?_; (simp; done)) | refine Row.alloc ?_ _ | refine Row.drew ?_ | refine Row.drewN ?_ _ | refine Row.other ?_ (by first | (simp; done) | (simp; omega) | omega) _ | refine Row.up ?_ (by assumption) | refine Row.chg ?_ (by assumption) (by first | (simp; done) | (simp; omega))))) rfl) (by simp)).mono ?_); rw [HV.out]; rintro E w1 ⟨rfl, hu1⟩; have z1 := hu1.size; (try simp at z1); have RB : Row w1 b #[.int .i64 cm.a, .int .i64 cm.b, .int .i64 cm.c, .int .i64 cm.d, .int .i64 cm.x, .int .i64 cm.y, .int .i64 sp, .int .i64 p0, .int .i64 p1, .int .i64 p2, .int .i64 p3, .int .i64 wd, .int .i64 cp, .int .i64 jn, .int .i64 mt, dv, .int .i64 ph, .int .i64 fn, .int .i64 fm.a, .int .i64 fm.b, .int .i64 fm.c, .int .i64 fm.d, .int .i64 fm.x, .int .i64 fm.y, cv, .bool dk, pp, .int .i64 most, .int .i64 segs, sv] := Row.up (show Row _ b #[.int .i64 cm.a, .int .i64 cm.b, .int .i64 cm.c, .int .i64 cm.d, .int .i64 cm.x, .int .i64 cm.y, .int .i64 sp, .int .i64 p0, .int .i64 p1, .int .i64 p2, .int .i64 p3, .int .i64 wd, .int .i64 cp, .int .i64 jn, .int .i64 mt, dv, .int .i64 ph, .int .i64 fn, .int .i64 fm.a, .int .i64 fm.b, .int .i64 fm.c, .int .i64 fm.d, .int .i64 fm.x, .int .i64 fm.y, cv, .bool dk, pp, .int .i64 most, .int .i64 segs, sv] from HR.out.alloc _) hu1; have RB_lt := RB.lt; have RM : Row w1 w.heap.size #[.int .i64 m.a, .int .i64 m.b, .int .i64 m.c, .int .i64 m.d, .int .i64 m.x, .int .i64 m.y] := Row.up (show Row _ w.heap.size #[.int .i64 m.a, .int .i64 m.b, .int .i64 m.c, .int .i64 m.d, .int .i64 m.x, .int .i64 m.y] by (repeat' (with_reducible first | assumption | (refine Row.at _ _ ?_; (simp; done)) | refine Row.alloc ?_ _ | refine Row.drew ?_ | refine Row.drewN ?_ _ | refine Row.other ?_ (by first | (simp; done) | (simp; omega) | omega) _ | refine Row.up ?_ (by assumption) | refine Row.chg ?_ (by assumption) (by first | (simp; done) | (simp; omega))))) hu1; ))
  refine wp_region_held_drew (S := fun w' => Row w' b #[.int .i64 cm.a, .int .i64 cm.b, .int .i64 cm.c, .int .i64 cm.d, .int .i64 cm.x, .int .i64 cm.y, .int .i64 sp, .int .i64 p0, .int .i64 p1, .int .i64 p2, .int .i64 p3, .int .i64 wd, .int .i64 cp, .int .i64 jn, .int .i64 mt, dv, .int .i64 ph, .int .i64 fn, .int .i64 fm.a, .int .i64 fm.b, .int .i64 fm.c, .int .i64 fm.d, .int .i64 fm.x, .int .i64 fm.y, cv, .bool dk, pp, .int .i64 most, .int .i64 segs, sv] ∧ Row w' w.heap.size #[.int .i64 m.a, .int .i64 m.b, .int .i64 m.c, .int .i64 m.d, .int .i64 m.x, .int .i64 m.y]) (by kernel_rfl) ?_ (fun hHeld => ?_)
  · exact ⟨by (repeat' (with_reducible first | assumption | (refine Row.at _ _ ?_; (simp; done)) | refine Row.alloc ?_ _ | refine Row.drew ?_ | refine Row.drewN ?_ _ | refine Row.other ?_ (by first | (simp; done) | (simp; omega) | omega) _ | refine Row.up ?_ (by assumption) | refine Row.chg ?_ (by assumption) (by first | (simp; done) | (simp; omega)))), by (repeat' (with_reducible first | assumption | (refine Row.at _ _ ?_; (simp; done)) | refine Row.alloc ?_ _ | refine Row.drew ?_ | refine Row.drewN ?_ _ | refine Row.other ?_ (by first | (simp; done) | (simp; omega) | omega) _ | refine Row.up ?_ (by assumption) | refine Row.chg ?_ (by assumption) (by first | (simp; done) | (simp; omega))))⟩
  refine wpAnyH_take (i := 0) rfl (by decide +kernel) (by decide +kernel) (by decide +kernel) (fun _ _ _ h => h) (yieldsIf_load_mid (by rfl) 26 (.tmp 3) rfl w.heap.size 0 rfl #[.int .i64 m.a, .int .i64 m.b, .int .i64 m.c, .int .i64 m.d, .int .i64 m.x, .int .i64 m.y].toList _ (fun _ h => rng_all h.2) Tryd.underlying26 rfl (by exact info6)) (by assumption) ?_
  (try simp only [Act.put, lga, lgz, lgs, lsa, lsz, lss])
  refine wpAnyH_take (i := 1) (v := ?_) rfl (by decide +kernel) (by decide +kernel) (by decide +kernel) (fun _ _ _ h => h) (Or.inl ⟨by rfl, ?_⟩) (by assumption) ?_
  rotate_left
  · intro w2 hSw
    (try dsimp only at hSw)
    go_simp
    (try (with_reducible rfl))
  (try simp only [Act.put, lga, lgz, lgs, lsa, lsz, lss])
  refine wpAnyH_take (i := 2) (v := ?_) rfl (by decide +kernel) (by decide +kernel) (by decide +kernel) (fun _ _ _ h => h) (Or.inl ⟨by rfl, ?_⟩) (by assumption) ?_
  rotate_left
  · intro w2 hSw
    (try dsimp only at hSw)
    go_simp
    (try (with_reducible rfl))
  (try simp only [Act.put, lga, lgz, lgs, lsa, lsz, lss])
  refine wpAnyH_take (i := 3) (v := ?_) rfl (by decide +kernel) (by decide +kernel) (by decide +kernel) (fun _ _ _ h => h) (Or.inl ⟨by rfl, ?_⟩) (by assumption) ?_
  rotate_left
  · intro w2 hSw
    (try dsimp only at hSw)
    go_simp
    (try (with_reducible rfl))
  (try simp only [Act.put, lga, lgz, lgs, lsa, lsz, lss])
  refine wpAnyH_take (i := 4) (v := ?_) rfl (by decide +kernel) (by decide +kernel) (by decide +kernel) (fun _ _ _ h => h) (Or.inl ⟨by rfl, ?_⟩) (by assumption) ?_
  rotate_left
  · intro w2 hSw
    (try dsimp only at hSw)
    go_simp
    (try (with_reducible rfl))
  (try simp only [Act.put, lga, lgz, lgs, lsa, lsz, lss])
  refine wpAnyH_take (i := 5) (v := ?_) rfl (by decide +kernel) (by decide +kernel) (by decide +kernel) (fun _ _ _ h => h) (Or.inl ⟨by rfl, ?_⟩) (by assumption) ?_
  rotate_left
  · intro w2 hSw
    (try dsimp only at hSw)
    go_simp
    (try (with_reducible rfl))
  (try simp only [Act.put, lga, lgz, lgs, lsa, lsz, lss])
  refine wpAnyH_take (i := 6) rfl (by decide +kernel) (by decide +kernel) (by decide +kernel) (fun _ _ _ h => h) (yieldsIf_load_mid (by rfl) 26 (.tmp 20) rfl b 0 rfl #[.int .i64 cm.a, .int .i64 cm.b, .int .i64 cm.c, .int .i64 cm.d, .int .i64 cm.x, .int .i64 cm.y].toList _ (fun _ h => row_ctm h.1) Tryd.underlying26 rfl (by exact info6)) (by assumption) ?_
  (try simp only [Act.put, lga, lgz, lgs, lsa, lsz, lss])
  refine wpAnyH_ready (rs := [7, 11]) (by decide +kernel) (by simp) ?_
  refine AllReadyH.cons rfl (fun K hK => ?_) (AllReadyH.cons rfl (fun K hK => ?_) (AllReadyH.nil))
  · skip
    (try simp only [lga, lgz, lgs])
    (go_simp; go_at_call 46; (with_reducible refine (Mat2.concat_calls m.a m.b m.c m.d m.x m.y cm.a cm.b cm.c cm.d cm.x cm.y _ h4 h5).mono ?_); rw [HC.out]; rintro E w2 ⟨rfl, hu2⟩; have z_w2 := hu2.size; (try simp at z_w2); have RB_w2 : Row w2 b #[.int .i64 cm.a, .int .i64 cm.b, .int .i64 cm.c, .int .i64 cm.d, .int .i64 cm.x, .int .i64 cm.y, .int .i64 sp, .int .i64 p0, .int .i64 p1, .int .i64 p2, .int .i64 p3, .int .i64 wd, .int .i64 cp, .int .i64 jn, .int .i64 mt, dv, .int .i64 ph, .int .i64 fn, .int .i64 fm.a, .int .i64 fm.b, .int .i64 fm.c, .int .i64 fm.d, .int .i64 fm.x, .int .i64 fm.y, cv, .bool dk, pp, .int .i64 most, .int .i64 segs, sv] := Row.up (show Row _ b #[.int .i64 cm.a, .int .i64 cm.b, .int .i64 cm.c, .int .i64 cm.d, .int .i64 cm.x, .int .i64 cm.y, .int .i64 sp, .int .i64 p0, .int .i64 p1, .int .i64 p2, .int .i64 p3, .int .i64 wd, .int .i64 cp, .int .i64 jn, .int .i64 mt, dv, .int .i64 ph, .int .i64 fn, .int .i64 fm.a, .int .i64 fm.b, .int .i64 fm.c, .int .i64 fm.d, .int .i64 fm.x, .int .i64 fm.y, cv, .bool dk, pp, .int .i64 most, .int .i64 segs, sv] from (by (repeat' (with_reducible first | assumption | (refine Row.at _ _ ?_; (simp; done)) | refine Row.alloc ?_ _ | refine Row.drew ?_ | refine Row.drewN ?_ _ | refine Row.other ?_ (by first | (simp; done) | (simp; omega) | omega) _ | refine Row.up ?_ (by assumption) | refine Row.chg ?_ (by assumption) (by first | (simp; done) | (simp; omega)))))) hu2; have RM_w2 : Row w2 w.heap.size #[.int .i64 m.a, .int .i64 m.b, .int .i64 m.c, .int .i64 m.d, .int .i64 m.x, .int .i64 m.y] := Row.up (show Row _ w.heap.size #[.int .i64 m.a, .int .i64 m.b, .int .i64 m.c, .int .i64 m.d, .int .i64 m.x, .int .i64 m.y] from (by (repeat' (with_reducible first | assumption | (refine Row.at _ _ ?_; (simp; done)) | refine Row.alloc ?_ _ | refine Row.drew ?_ | refine Row.drewN ?_ _ | refine Row.other ?_ (by first | (simp; done) | (simp; omega) | omega) _ | refine Row.up ?_ (by assumption) | refine Row.chg ?_ (by assumption) (by first | (simp; done) | (simp; omega)))))) hu2; (try dsimp only))
    refine hK.out _ _ ?_ (fun hHeld => ?_)
    · exact ⟨RB_w2, RM_w2⟩
    clear hK K
    (try simp only [Act.put, lga, lgz, lgs, lsa, lsz, lss])
    refine wpAnyH_take (i := 8) (v := ?_) rfl (by decide +kernel) (by decide +kernel) (by decide +kernel) (fun _ _ _ h => h) (Or.inl ⟨by rfl, ?_⟩) (by assumption) ?_
    rotate_left
    · intro w2 hSw
      (try dsimp only at hSw)
      go_simp
      (try (with_reducible rfl))
    (try simp only [Act.put, lga, lgz, lgs, lsa, lsz, lss])
    refine wpAnyH_take (i := 9) (v := ?_) rfl (by decide +kernel) (by decide +kernel) (by decide +kernel) (fun _ _ _ h => h) (Or.inl ⟨by rfl, ?_⟩) (by assumption) ?_
    rotate_left
    · intro w2 hSw
      (try dsimp only at hSw)
      go_simp
      (try (with_reducible rfl))
    (try simp only [Act.put, lga, lgz, lgs, lsa, lsz, lss])
    refine wpAnyH_take (i := 10) (v := ?_) rfl (by decide +kernel) (by decide +kernel) (by decide +kernel) (fun _ _ _ h => h) (Or.inl ⟨by rfl, ?_⟩) (by assumption) ?_
    rotate_left
    · intro w2 hSw
      (try dsimp only at hSw)
      go_simp
      (try (with_reducible rfl))
    (try simp only [Act.put, lga, lgz, lgs, lsa, lsz, lss])
    refine wpAnyH_ready (rs := [11]) (by decide +kernel) (by simp) ?_
    refine AllReadyH.cons rfl (fun K hK => ?_) (AllReadyH.nil)
    (try simp only [lga, lgz, lgs])
    (go_simp)
    refine hK.out _ _ ?_ (fun hHeld => ?_)
    · exact ⟨by (repeat' (with_reducible first | assumption | (refine Row.at _ _ ?_; (simp; done)) | refine Row.alloc ?_ _ | refine Row.drew ?_ | refine Row.drewN ?_ _ | refine Row.other ?_ (by first | (simp; done) | (simp; omega) | omega) _ | refine Row.up ?_ (by assumption) | refine Row.chg ?_ (by assumption) (by first | (simp; done) | (simp; omega)))), by (repeat' (with_reducible first | assumption | (refine Row.at _ _ ?_; (simp; done)) | refine Row.alloc ?_ _ | refine Row.drew ?_ | refine Row.drewN ?_ _ | refine Row.other ?_ (by first | (simp; done) | (simp; omega) | omega) _ | refine Row.up ?_ (by assumption) | refine Row.chg ?_ (by assumption) (by first | (simp; done) | (simp; omega))))⟩
    clear hK K
    (try simp only [Act.put, lga, lgz, lgs, lsa, lsz, lss])
    refine wpAnyH_ready (rs := [12]) (by decide +kernel) (by simp) ?_
    refine AllReadyH.cons rfl (fun K hK => ?_) (AllReadyH.nil)
    (try simp only [lga, lgz, lgs])
    (rw [if_pos (by rfl)]; refine Gs.wp_store_Row 26 (.tmp 6) (.tmp 23) rfl (w2.heap.size) #[.int .i64 c2.a, .int .i64 c2.b, .int .i64 c2.c, .int .i64 c2.d, .int .i64 c2.x, .int .i64 c2.y] rfl rfl #[.int .i64 0, .int .i64 0, .int .i64 0, .int .i64 0, .int .i64 0, .int .i64 0] (show Row _ w2.heap.size #[.int .i64 0, .int .i64 0, .int .i64 0, .int .i64 0, .int .i64 0, .int .i64 0] from (by (repeat' (with_reducible first | assumption | (refine Row.at _ _ ?_; (simp; done)) | refine Row.alloc ?_ _ | refine Row.drew ?_ | refine Row.drewN ?_ _ | refine Row.other ?_ (by first | (simp; done) | (simp; omega) | omega) _ | refine Row.up ?_ (by assumption) | refine Row.chg ?_ (by assumption) (by first | (simp; done) | (simp; omega)))))) info6 rfl rfl (by simp [Value.oneCell']) ?_); intro w9 hr9 hc9; have RB9 : Row w9 b #[.int .i64 cm.a, .int .i64 cm.b, .int .i64 cm.c, .int .i64 cm.d, .int .i64 cm.x, .int .i64 cm.y, .int .i64 sp, .int .i64 p0, .int .i64 p1, .int .i64 p2, .int .i64 p3, .int .i64 wd, .int .i64 cp, .int .i64 jn, .int .i64 mt, dv, .int .i64 ph, .int .i64 fn, .int .i64 fm.a, .int .i64 fm.b, .int .i64 fm.c, .int .i64 fm.d, .int .i64 fm.x, .int .i64 fm.y, cv, .bool dk, pp, .int .i64 most, .int .i64 segs, sv] := Row.chg (show Row _ b #[.int .i64 cm.a, .int .i64 cm.b, .int .i64 cm.c, .int .i64 cm.d, .int .i64 cm.x, .int .i64 cm.y, .int .i64 sp, .int .i64 p0, .int .i64 p1, .int .i64 p2, .int .i64 p3, .int .i64 wd, .int .i64 cp, .int .i64 jn, .int .i64 mt, dv, .int .i64 ph, .int .i64 fn, .int .i64 fm.a, .int .i64 fm.b, .int .i64 fm.c, .int .i64 fm.d, .int .i64 fm.x, .int .i64 fm.y, cv, .bool dk, pp, .int .i64 most, .int .i64 segs, sv] from (by (repeat' (with_reducible first | assumption | (refine Row.at _ _ ?_; (simp; done)) | refine Row.alloc ?_ _ | refine Row.drew ?_ | refine Row.drewN ?_ _ | refine Row.other ?_ (by first | (simp; done) | (simp; omega) | omega) _ | refine Row.up ?_ (by assumption) | refine Row.chg ?_ (by assumption) (by first | (simp; done) | (simp; omega)))))) hc9 (by simp; omega); have RM9 : Row w9 w.heap.size #[.int .i64 m.a, .int .i64 m.b, .int .i64 m.c, .int .i64 m.d, .int .i64 m.x, .int .i64 m.y] := Row.chg (show Row _ w.heap.size #[.int .i64 m.a, .int .i64 m.b, .int .i64 m.c, .int .i64 m.d, .int .i64 m.x, .int .i64 m.y] from (by (repeat' (with_reducible first | assumption | (refine Row.at _ _ ?_; (simp; done)) | refine Row.alloc ?_ _ | refine Row.drew ?_ | refine Row.drewN ?_ _ | refine Row.other ?_ (by first | (simp; done) | (simp; omega) | omega) _ | refine Row.up ?_ (by assumption) | refine Row.chg ?_ (by assumption) (by first | (simp; done) | (simp; omega)))))) hc9 (by simp; omega)
    refine hK.out _ _ ?_ (fun hHeld => ?_)
    · exact ⟨RB9, RM9⟩
    clear hK K
    (try simp only [Act.put, lga, lgz, lgs, lsa, lsz, lss])
    refine wpAnyH_take (i := 13) (v := ?_) rfl (by decide +kernel) (by decide +kernel) (by decide +kernel) (fun _ _ _ h => h) (Or.inl ⟨by rfl, ?_⟩) (by assumption) ?_
    rotate_left
    · intro w2 hSw
      (try dsimp only at hSw)
      go_simp
      (try (with_reducible rfl))
    (try simp only [Act.put, lga, lgz, lgs, lsa, lsz, lss])
    refine wpAnyH_done (by decide +kernel) ?_ _
    have h9l := hr9.lt
    have RB9l := RB9.lt
    have rb0 := RB9.cell 0 rfl
    have rbf0 := RB9.free 0
    have rb1 := RB9.cell 1 rfl
    have rbf1 := RB9.free 1
    have rb2 := RB9.cell 2 rfl
    have rbf2 := RB9.free 2
    have rb3 := RB9.cell 3 rfl
    have rbf3 := RB9.free 3
    have rb4 := RB9.cell 4 rfl
    have rbf4 := RB9.free 4
    have rb5 := RB9.cell 5 rfl
    have rbf5 := RB9.free 5
    go_wp2_with (first | (refine wpList_load_Row rfl 26 (.tmp 6) rfl (w2.heap.size) rfl #[.int .i64 c2.a, .int .i64 c2.b, .int .i64 c2.c, .int .i64 c2.d, .int .i64 c2.x, .int .i64 c2.y] _ hr9 Tryd.underlying26 rfl info6 rfl ?_))
    go_ret
    exact ⟨rfl, (show Chg [] w _ from (by (repeat' (first | (with_reducible first | exact Chg.refl _ _ | assumption | refine Chg.alloc ?_ _ | refine Chg.drew ?_ | refine Chg.drewN ?_ _ | refine Chg.setCell ?_ ?_ _ | refine Chg.upc ?_ (by assumption) | refine Chg.call ?_ (by assumption) ?_) | (refine Or.inl ?_; (simp; done)) | (simp; done) | (simp; omega) | omega)))).up⟩
  · skip
    (try simp only [lga, lgz, lgs])
    (go_simp)
    refine hK.out _ _ ?_ (fun hHeld => ?_)
    · exact ⟨by (repeat' (with_reducible first | assumption | (refine Row.at _ _ ?_; (simp; done)) | refine Row.alloc ?_ _ | refine Row.drew ?_ | refine Row.drewN ?_ _ | refine Row.other ?_ (by first | (simp; done) | (simp; omega) | omega) _ | refine Row.up ?_ (by assumption) | refine Row.chg ?_ (by assumption) (by first | (simp; done) | (simp; omega)))), by (repeat' (with_reducible first | assumption | (refine Row.at _ _ ?_; (simp; done)) | refine Row.alloc ?_ _ | refine Row.drew ?_ | refine Row.drewN ?_ _ | refine Row.other ?_ (by first | (simp; done) | (simp; omega) | omega) _ | refine Row.up ?_ (by assumption) | refine Row.chg ?_ (by assumption) (by first | (simp; done) | (simp; omega))))⟩
    clear hK K
    (try simp only [Act.put, lga, lgz, lgs, lsa, lsz, lss])
    refine wpAnyH_ready (rs := [7]) (by decide +kernel) (by simp) ?_
    refine AllReadyH.cons rfl (fun K hK => ?_) (AllReadyH.nil)
    (try simp only [lga, lgz, lgs])
    (go_simp; go_at_call 46; (with_reducible refine (Mat2.concat_calls m.a m.b m.c m.d m.x m.y cm.a cm.b cm.c cm.d cm.x cm.y _ h4 h5).mono ?_); rw [HC.out]; rintro E w2 ⟨rfl, hu2⟩; have z_w2 := hu2.size; (try simp at z_w2); have RB_w2 : Row w2 b #[.int .i64 cm.a, .int .i64 cm.b, .int .i64 cm.c, .int .i64 cm.d, .int .i64 cm.x, .int .i64 cm.y, .int .i64 sp, .int .i64 p0, .int .i64 p1, .int .i64 p2, .int .i64 p3, .int .i64 wd, .int .i64 cp, .int .i64 jn, .int .i64 mt, dv, .int .i64 ph, .int .i64 fn, .int .i64 fm.a, .int .i64 fm.b, .int .i64 fm.c, .int .i64 fm.d, .int .i64 fm.x, .int .i64 fm.y, cv, .bool dk, pp, .int .i64 most, .int .i64 segs, sv] := Row.up (show Row _ b #[.int .i64 cm.a, .int .i64 cm.b, .int .i64 cm.c, .int .i64 cm.d, .int .i64 cm.x, .int .i64 cm.y, .int .i64 sp, .int .i64 p0, .int .i64 p1, .int .i64 p2, .int .i64 p3, .int .i64 wd, .int .i64 cp, .int .i64 jn, .int .i64 mt, dv, .int .i64 ph, .int .i64 fn, .int .i64 fm.a, .int .i64 fm.b, .int .i64 fm.c, .int .i64 fm.d, .int .i64 fm.x, .int .i64 fm.y, cv, .bool dk, pp, .int .i64 most, .int .i64 segs, sv] from (by (repeat' (with_reducible first | assumption | (refine Row.at _ _ ?_; (simp; done)) | refine Row.alloc ?_ _ | refine Row.drew ?_ | refine Row.drewN ?_ _ | refine Row.other ?_ (by first | (simp; done) | (simp; omega) | omega) _ | refine Row.up ?_ (by assumption) | refine Row.chg ?_ (by assumption) (by first | (simp; done) | (simp; omega)))))) hu2; have RM_w2 : Row w2 w.heap.size #[.int .i64 m.a, .int .i64 m.b, .int .i64 m.c, .int .i64 m.d, .int .i64 m.x, .int .i64 m.y] := Row.up (show Row _ w.heap.size #[.int .i64 m.a, .int .i64 m.b, .int .i64 m.c, .int .i64 m.d, .int .i64 m.x, .int .i64 m.y] from (by (repeat' (with_reducible first | assumption | (refine Row.at _ _ ?_; (simp; done)) | refine Row.alloc ?_ _ | refine Row.drew ?_ | refine Row.drewN ?_ _ | refine Row.other ?_ (by first | (simp; done) | (simp; omega) | omega) _ | refine Row.up ?_ (by assumption) | refine Row.chg ?_ (by assumption) (by first | (simp; done) | (simp; omega)))))) hu2; have RN_w2 : Row w2 w1.heap.size #[.int .i64 0, .int .i64 0, .int .i64 0, .int .i64 0, .int .i64 0, .int .i64 0] := Row.up (show Row _ w1.heap.size #[.int .i64 0, .int .i64 0, .int .i64 0, .int .i64 0, .int .i64 0, .int .i64 0] from (by (repeat' (with_reducible first | assumption | (refine Row.at _ _ ?_; (simp; done)) | refine Row.alloc ?_ _ | refine Row.drew ?_ | refine Row.drewN ?_ _ | refine Row.other ?_ (by first | (simp; done) | (simp; omega) | omega) _ | refine Row.up ?_ (by assumption) | refine Row.chg ?_ (by assumption) (by first | (simp; done) | (simp; omega)))))) hu2; (try dsimp only))
    refine hK.out _ _ ?_ (fun hHeld => ?_)
    · exact ⟨RB_w2, RM_w2⟩
    clear hK K
    (try simp only [Act.put, lga, lgz, lgs, lsa, lsz, lss])
    refine wpAnyH_take (i := 8) (v := ?_) rfl (by decide +kernel) (by decide +kernel) (by decide +kernel) (fun _ _ _ h => h) (Or.inl ⟨by rfl, ?_⟩) (by assumption) ?_
    rotate_left
    · intro w2 hSw
      (try dsimp only at hSw)
      go_simp
      (try (with_reducible rfl))
    (try simp only [Act.put, lga, lgz, lgs, lsa, lsz, lss])
    refine wpAnyH_take (i := 9) (v := ?_) rfl (by decide +kernel) (by decide +kernel) (by decide +kernel) (fun _ _ _ h => h) (Or.inl ⟨by rfl, ?_⟩) (by assumption) ?_
    rotate_left
    · intro w2 hSw
      (try dsimp only at hSw)
      go_simp
      (try (with_reducible rfl))
    (try simp only [Act.put, lga, lgz, lgs, lsa, lsz, lss])
    refine wpAnyH_take (i := 10) (v := ?_) rfl (by decide +kernel) (by decide +kernel) (by decide +kernel) (fun _ _ _ h => h) (Or.inl ⟨by rfl, ?_⟩) (by assumption) ?_
    rotate_left
    · intro w2 hSw
      (try dsimp only at hSw)
      go_simp
      (try (with_reducible rfl))
    (try simp only [Act.put, lga, lgz, lgs, lsa, lsz, lss])
    refine wpAnyH_ready (rs := [12]) (by decide +kernel) (by simp) ?_
    refine AllReadyH.cons rfl (fun K hK => ?_) (AllReadyH.nil)
    (try simp only [lga, lgz, lgs])
    (rw [if_pos (by rfl)]; refine Gs.wp_store_Row 26 (.tmp 6) (.tmp 23) rfl (w1.heap.size) #[.int .i64 c2.a, .int .i64 c2.b, .int .i64 c2.c, .int .i64 c2.d, .int .i64 c2.x, .int .i64 c2.y] rfl rfl #[.int .i64 0, .int .i64 0, .int .i64 0, .int .i64 0, .int .i64 0, .int .i64 0] RN_w2 info6 rfl rfl (by simp [Value.oneCell']) ?_); intro w9 hr9 hc9; have RB9 : Row w9 b #[.int .i64 cm.a, .int .i64 cm.b, .int .i64 cm.c, .int .i64 cm.d, .int .i64 cm.x, .int .i64 cm.y, .int .i64 sp, .int .i64 p0, .int .i64 p1, .int .i64 p2, .int .i64 p3, .int .i64 wd, .int .i64 cp, .int .i64 jn, .int .i64 mt, dv, .int .i64 ph, .int .i64 fn, .int .i64 fm.a, .int .i64 fm.b, .int .i64 fm.c, .int .i64 fm.d, .int .i64 fm.x, .int .i64 fm.y, cv, .bool dk, pp, .int .i64 most, .int .i64 segs, sv] := Row.chg (show Row _ b #[.int .i64 cm.a, .int .i64 cm.b, .int .i64 cm.c, .int .i64 cm.d, .int .i64 cm.x, .int .i64 cm.y, .int .i64 sp, .int .i64 p0, .int .i64 p1, .int .i64 p2, .int .i64 p3, .int .i64 wd, .int .i64 cp, .int .i64 jn, .int .i64 mt, dv, .int .i64 ph, .int .i64 fn, .int .i64 fm.a, .int .i64 fm.b, .int .i64 fm.c, .int .i64 fm.d, .int .i64 fm.x, .int .i64 fm.y, cv, .bool dk, pp, .int .i64 most, .int .i64 segs, sv] from (by (repeat' (with_reducible first | assumption | (refine Row.at _ _ ?_; (simp; done)) | refine Row.alloc ?_ _ | refine Row.drew ?_ | refine Row.drewN ?_ _ | refine Row.other ?_ (by first | (simp; done) | (simp; omega) | omega) _ | refine Row.up ?_ (by assumption) | refine Row.chg ?_ (by assumption) (by first | (simp; done) | (simp; omega)))))) hc9 (by simp; omega); have RM9 : Row w9 w.heap.size #[.int .i64 m.a, .int .i64 m.b, .int .i64 m.c, .int .i64 m.d, .int .i64 m.x, .int .i64 m.y] := Row.chg (show Row _ w.heap.size #[.int .i64 m.a, .int .i64 m.b, .int .i64 m.c, .int .i64 m.d, .int .i64 m.x, .int .i64 m.y] from (by (repeat' (with_reducible first | assumption | (refine Row.at _ _ ?_; (simp; done)) | refine Row.alloc ?_ _ | refine Row.drew ?_ | refine Row.drewN ?_ _ | refine Row.other ?_ (by first | (simp; done) | (simp; omega) | omega) _ | refine Row.up ?_ (by assumption) | refine Row.chg ?_ (by assumption) (by first | (simp; done) | (simp; omega)))))) hc9 (by simp; omega)
    refine hK.out _ _ ?_ (fun hHeld => ?_)
    · exact ⟨RB9, RM9⟩
    clear hK K
    (try simp only [Act.put, lga, lgz, lgs, lsa, lsz, lss])
    refine wpAnyH_take (i := 13) (v := ?_) rfl (by decide +kernel) (by decide +kernel) (by decide +kernel) (fun _ _ _ h => h) (Or.inl ⟨by rfl, ?_⟩) (by assumption) ?_
    rotate_left
    · intro w2 hSw
      (try dsimp only at hSw)
      go_simp
      (try (with_reducible rfl))
    (try simp only [Act.put, lga, lgz, lgs, lsa, lsz, lss])
    refine wpAnyH_done (by decide +kernel) ?_ _
    have h9l := hr9.lt
    have RB9l := RB9.lt
    have rb0 := RB9.cell 0 rfl
    have rbf0 := RB9.free 0
    have rb1 := RB9.cell 1 rfl
    have rbf1 := RB9.free 1
    have rb2 := RB9.cell 2 rfl
    have rbf2 := RB9.free 2
    have rb3 := RB9.cell 3 rfl
    have rbf3 := RB9.free 3
    have rb4 := RB9.cell 4 rfl
    have rbf4 := RB9.free 4
    have rb5 := RB9.cell 5 rfl
    have rbf5 := RB9.free 5
    go_wp2_with (first | (refine wpList_load_Row rfl 26 (.tmp 6) rfl (w1.heap.size) rfl #[.int .i64 c2.a, .int .i64 c2.b, .int .i64 c2.c, .int .i64 c2.d, .int .i64 c2.x, .int .i64 c2.y] _ hr9 Tryd.underlying26 rfl info6 rfl ?_))
    go_ret
    exact ⟨rfl, (show Chg [] w _ from (by (repeat' (first | (with_reducible first | exact Chg.refl _ _ | assumption | refine Chg.alloc ?_ _ | refine Chg.drew ?_ | refine Chg.drewN ?_ _ | refine Chg.setCell ?_ ?_ _ | refine Chg.upc ?_ (by assumption) | refine Chg.call ?_ (by assumption) ?_) | (refine Or.inl ?_; (simp; done)) | (simp; done) | (simp; omega) | omega)))).up⟩

set_option maxRecDepth 8000 in
set_option maxHeartbeats 1000000 in
theorem concat_bad (cm : M6) (sp p0 p1 p2 p3 wd cp jn mt : Int) (dv : Value) (ph fn : Int) (fm : M6) (cv : Value) (dk : Bool) (pp : Value) (most segs : Int) (sv : Value) (b : Nat) (m : M6) (w : World) (h : Row w b #[.int .i64 cm.a, .int .i64 cm.b, .int .i64 cm.c, .int .i64 cm.d, .int .i64 cm.x, .int .i64 cm.y, .int .i64 sp, .int .i64 p0, .int .i64 p1, .int .i64 p2, .int .i64 p3, .int .i64 wd, .int .i64 cp, .int .i64 jn, .int .i64 mt, dv, .int .i64 ph, .int .i64 fn, .int .i64 fm.a, .int .i64 fm.b, .int .i64 fm.c, .int .i64 fm.d, .int .i64 fm.x, .int .i64 fm.y, cv, .bool dk, pp, .int .i64 most, .int .i64 segs, sv]) (hv : Gs.chk (l6 m) = 11) :
    Calls Tryd.prog 25 #[.pointer (some ⟨b, 0, none⟩), .agg #[.int .i64 m.a, .int .i64 m.b, .int .i64 m.c, .int .i64 m.d, .int .i64 m.x, .int .i64 m.y]] w fun E w' => E = .returned (.int .i64 11) ∧ Up w w' := by
  have HR := Lib.hid h
  have HV := Lib.hid hv
  have hlt := h.lt
  clear h hv
  go_enter Tryd.func25, Tryd.ntmps25
  go_wp2_with (go_at_call 45; ((with_reducible refine (Gs.check_calls ⟨b, 0, none⟩ (l6 m) 6 w.heap.size 0 6 rfl _ (by decide) (ints_row (cs := #[.int .i64 m.a, .int .i64 m.b, .int .i64 m.c, .int .i64 m.d, .int .i64 m.x, .int .i64 m.y]) (by (repeat' (with_reducible first | assumption | (refine Row.at _ _ ?_; (simp; done)) | refine Row.alloc ?_ _ | refine Row.drew ?_ | refine Row.drewN ?_ _ | refine Row.other ?_ (by first | (simp; done) | (simp; omega) | omega) _ | refine Row.up ?_ (by assumption) | refine Row.chg ?_ (by assumption) (by first | (simp; done) | (simp; omega))))) rfl) (by simp)).mono ?_); rw [HV.out]; rintro E w1 ⟨rfl, hu1⟩; have z1 := hu1.size; (try simp at z1); have RB : Row w1 b #[.int .i64 cm.a, .int .i64 cm.b, .int .i64 cm.c, .int .i64 cm.d, .int .i64 cm.x, .int .i64 cm.y, .int .i64 sp, .int .i64 p0, .int .i64 p1, .int .i64 p2, .int .i64 p3, .int .i64 wd, .int .i64 cp, .int .i64 jn, .int .i64 mt, dv, .int .i64 ph, .int .i64 fn, .int .i64 fm.a, .int .i64 fm.b, .int .i64 fm.c, .int .i64 fm.d, .int .i64 fm.x, .int .i64 fm.y, cv, .bool dk, pp, .int .i64 most, .int .i64 segs, sv] := Row.up (show Row _ b #[.int .i64 cm.a, .int .i64 cm.b, .int .i64 cm.c, .int .i64 cm.d, .int .i64 cm.x, .int .i64 cm.y, .int .i64 sp, .int .i64 p0, .int .i64 p1, .int .i64 p2, .int .i64 p3, .int .i64 wd, .int .i64 cp, .int .i64 jn, .int .i64 mt, dv, .int .i64 ph, .int .i64 fn, .int .i64 fm.a, .int .i64 fm.b, .int .i64 fm.c, .int .i64 fm.d, .int .i64 fm.x, .int .i64 fm.y, cv, .bool dk, pp, .int .i64 most, .int .i64 segs, sv] from HR.out.alloc _) hu1; have RB_lt := RB.lt; have RM : Row w1 w.heap.size #[.int .i64 m.a, .int .i64 m.b, .int .i64 m.c, .int .i64 m.d, .int .i64 m.x, .int .i64 m.y] := Row.up (show Row _ w.heap.size #[.int .i64 m.a, .int .i64 m.b, .int .i64 m.c, .int .i64 m.d, .int .i64 m.x, .int .i64 m.y] by (repeat' (with_reducible first | assumption | (refine Row.at _ _ ?_; (simp; done)) | refine Row.alloc ?_ _ | refine Row.drew ?_ | refine Row.drewN ?_ _ | refine Row.other ?_ (by first | (simp; done) | (simp; omega) | omega) _ | refine Row.up ?_ (by assumption) | refine Row.chg ?_ (by assumption) (by first | (simp; done) | (simp; omega))))) hu1; ))
  go_ret
  exact ⟨rfl, by (repeat' (first | (with_reducible first | exact Up.refl _ | assumption | refine Up.alloc ?_ _ | refine Up.drew ?_ | refine Up.drewN ?_ _ | refine Up.setCell ?_ ?_ _ | refine Up.call ?_ (by assumption)) | go_size))⟩

end Go.Proofs.YtoflafbhfoncmaaDoor.Gt
end
