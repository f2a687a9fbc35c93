/- gstate's SetFont and SetColor of any states. Its condition: the fonts' names lie as they are laid. gstate's SetDash of any states. Its condition: at most a hundred numbers. gstate's Restore of any states. Its condition: at most a thousand saved ones. gstate's Save of any states. Its condition: lengths that an append bears. gstate's RestoreAll of any states. Its condition: lengths that an append bears. -/
import Derived.Test.YtoflafbhfoncmaaDoorGB
import Derived.Test.YtoflafbhfoncmaaDoorFontT
import Derived.Deep.AppendLies
import Derived.Deep.MidRow
section
namespace Go.Proofs.YtoflafbhfoncmaaDoor.Gt
open Go.ChangeShapes Go.WideShapes Go.ChangeAt Go.RowKit
open Go.Proofs.YtoflafbhfoncmaaDoor.FixM (fits)
open Go.Proofs.YtoflafbhfoncmaaDoor.MatM (M6)
open Go.Proofs.YtoflafbhfoncmaaDoor.PathM (Seg St Z segCells)
open Go.Proofs.YtoflafbhfoncmaaDoor.Path (own own_mem own_of PathIs Segs)
open Go.Proofs.YtoflafbhfoncmaaDoor.Pt (Clip clipCells Src)
set_option linter.unusedVariables false
set_option linter.unusedSimpArgs false

theorem names_some (i : Int) (h0 : 0 ≤ i) (h1 : i < 14) : ∃ wl : List UInt8, (if 0 ≤ i ∧ i < 14 then Font.namesL.getD i.toNat [] else []) = wl ∧ wl ≠ [] := by
  obtain ⟨n, rfl⟩ := Int.eq_ofNat_of_zero_le h0
  refine ⟨_, rfl, ?_⟩
  rw [if_pos ⟨h0, h1⟩, Int.toNat_natCast]
  have : ∀ m : Fin 14, Font.namesL.getD m.val [] ≠ [] := by decide
  exact this ⟨n, by omega⟩
set_option maxRecDepth 8000 in
set_option maxHeartbeats 1000000 in
theorem setFont_ok (cm : M6) (sp p0 p1 p2 p3 wd cp jn mt : Int) (dv : Value) (ph fn : Int) (fm : M6) (cv : Value) (dk : Bool) (pp : Value) (most segs : Int) (sv : Value) (b : Nat) (i : Int) (m : M6) (w : World) (h : Row w b #[.int .i64 cm.a, .int .i64 cm.b, .int .i64 cm.c, .int .i64 cm.d, .int .i64 cm.x, .int .i64 cm.y, .int .i64 sp, .int .i64 p0, .int .i64 p1, .int .i64 p2, .int .i64 p3, .int .i64 wd, .int .i64 cp, .int .i64 jn, .int .i64 mt, dv, .int .i64 ph, .int .i64 fn, .int .i64 fm.a, .int .i64 fm.b, .int .i64 fm.c, .int .i64 fm.d, .int .i64 fm.x, .int .i64 fm.y, cv, .bool dk, pp, .int .i64 most, .int .i64 segs, sv]) (hv : Gs.chk (l6 m) = 0) (h0 : 0 ≤ i) (h1 : i < 14) (hT : Font.Tab w) :
    Calls Tryd.prog 27 #[.pointer (some ⟨b, 0, none⟩), .int .i64 i, .agg #[.int .i64 m.a, .int .i64 m.b, .int .i64 m.c, .int .i64 m.d, .int .i64 m.x, .int .i64 m.y]] w fun E w' => E = .returned (.int .i64 0) ∧ Row w' b #[.int .i64 cm.a, .int .i64 cm.b, .int .i64 cm.c, .int .i64 cm.d, .int .i64 cm.x, .int .i64 cm.y, .int .i64 sp, .int .i64 p0, .int .i64 p1, .int .i64 p2, .int .i64 p3, .int .i64 wd, .int .i64 cp, .int .i64 jn, .int .i64 mt, dv, .int .i64 ph, .int .i64 i, .int .i64 m.a, .int .i64 m.b, .int .i64 m.c, .int .i64 m.d, .int .i64 m.x, .int .i64 m.y, cv, .bool dk, pp, .int .i64 most, .int .i64 segs, sv] ∧ Chg [b] w w' := by
  have HR := Lib.hid h
  have HT := Lib.hid hT
  have HV := Lib.hid hv
  have hlt := h.lt
  obtain ⟨wl, hw, hne⟩ := names_some i h0 h1
  have HW := Lib.hid hw
  have h2 : wl.isEmpty = false := by simpa using hne
  clear h hT hv hw h0 h1
  go_enter Tryd.func27, Tryd.ntmps27
  go_wp2_with (first
    | (go_at_call 45; ((with_reducible refine (Gs.check_calls ⟨b, 0, none⟩ (l6 m) 6 w.heap.size 0 6 rfl _ (by decide) (ints_row (cs := #[.int .i64 m.a, .int .i64 m.b, .int .i64 m.c, .int .i64 m.d, .int .i64 m.x, .int .i64 m.y]) (by (repeat' (with_reducible first | assumption | (refine Row.at _ _ ?_; (simp; done)) | refine Row.alloc ?_ _ | refine Row.drew ?_ | refine Row.drewN ?_ _ | refine Row.other ?_ (by first | (simp; done) | (simp; omega) | omega) _ | refine Row.up ?_ (by assumption) | refine Row.chg ?_ (by assumption) (by first | (simp; done) | (simp; omega))))) rfl) (by simp)).mono ?_); rw [HV.out]; rintro E w1 ⟨rfl, hu1⟩; have z1 := hu1.size; (try simp at z1); have RB : Row w1 b #[.int .i64 cm.a, .int .i64 cm.b, .int .i64 cm.c, .int .i64 cm.d, .int .i64 cm.x, .int .i64 cm.y, .int .i64 sp, .int .i64 p0, .int .i64 p1, .int .i64 p2, .int .i64 p3, .int .i64 wd, .int .i64 cp, .int .i64 jn, .int .i64 mt, dv, .int .i64 ph, .int .i64 fn, .int .i64 fm.a, .int .i64 fm.b, .int .i64 fm.c, .int .i64 fm.d, .int .i64 fm.x, .int .i64 fm.y, cv, .bool dk, pp, .int .i64 most, .int .i64 segs, sv] := Row.up (show Row _ b #[.int .i64 cm.a, .int .i64 cm.b, .int .i64 cm.c, .int .i64 cm.d, .int .i64 cm.x, .int .i64 cm.y, .int .i64 sp, .int .i64 p0, .int .i64 p1, .int .i64 p2, .int .i64 p3, .int .i64 wd, .int .i64 cp, .int .i64 jn, .int .i64 mt, dv, .int .i64 ph, .int .i64 fn, .int .i64 fm.a, .int .i64 fm.b, .int .i64 fm.c, .int .i64 fm.d, .int .i64 fm.x, .int .i64 fm.y, cv, .bool dk, pp, .int .i64 most, .int .i64 segs, sv] from HR.out.alloc _) hu1; have RB_lt := RB.lt; have RM : Row w1 w.heap.size #[.int .i64 m.a, .int .i64 m.b, .int .i64 m.c, .int .i64 m.d, .int .i64 m.x, .int .i64 m.y] := Row.up (show Row _ w.heap.size #[.int .i64 m.a, .int .i64 m.b, .int .i64 m.c, .int .i64 m.d, .int .i64 m.x, .int .i64 m.y] by (repeat' (with_reducible first | assumption | (refine Row.at _ _ ?_; (simp; done)) | refine Row.alloc ?_ _ | refine Row.drew ?_ | refine Row.drewN ?_ _ | refine Row.other ?_ (by first | (simp; done) | (simp; omega) | omega) _ | refine Row.up ?_ (by assumption) | refine Row.chg ?_ (by assumption) (by first | (simp; done) | (simp; omega))))) hu1; have rb17 := RB.cell 17 rfl; have rbf17 := RB.free 17; have rb18 := RB.cell 18 rfl; have rbf18 := RB.free 18; have rb19 := RB.cell 19 rfl; have rbf19 := RB.free 19; have rb20 := RB.cell 20 rfl; have rbf20 := RB.free 20; have rb21 := RB.cell 21 rfl; have rbf21 := RB.free 21; have rb22 := RB.cell 22 rfl; have rbf22 := RB.free 22; have rb23 := RB.cell 23 rfl; have rbf23 := RB.free 23))
    | (go_at_call 47; ((with_reducible refine (Font.name_calls _ _ (HT.out.up (by (repeat' (first | (with_reducible first | exact Up.refl _ | assumption | refine Up.alloc ?_ _ | refine Up.drew ?_ | refine Up.drewN ?_ _ | refine Up.setCell ?_ ?_ _ | refine Up.call ?_ (by assumption)) | go_size))))).mono ?_); rw [HW.out]; rintro E w2 ⟨rfl, rfl⟩))
    | (refine wpList_load_Row rfl 26 (.tmp 5) rfl (w.heap.size) rfl #[.int .i64 m.a, .int .i64 m.b, .int .i64 m.c, .int .i64 m.d, .int .i64 m.x, .int .i64 m.y] _ RM Tryd.underlying26 rfl info6 rfl ?_))
  go_ret
  exact ⟨rfl, (by apply cast; (case h => (repeat (first | (with_reducible first | assumption | (apply Row.at; (simp; done)) | apply Row.alloc | apply Row.drew | apply Row.drewN | apply Row.set) | ((with_reducible apply Row.other); (case hp => first | (simp; done) | (simp; omega) | omega))))); (case e => rfl)), by (repeat' (first | (with_reducible first | exact Chg.refl _ _ | assumption | refine Chg.alloc ?_ _ | refine Chg.drew ?_ | refine Chg.drewN ?_ _ | refine Chg.setCell ?_ ?_ _ | refine Chg.upc ?_ (by assumption) | refine Chg.call ?_ (by assumption) ?_) | (refine Or.inl ?_; (simp; done)) | (simp; done) | (simp; omega) | omega))⟩
set_option maxRecDepth 8000 in
set_option maxHeartbeats 1000000 in
theorem setFont_none (cm : M6) (sp p0 p1 p2 p3 wd cp jn mt : Int) (dv : Value) (ph fn : Int) (fm : M6) (cv : Value) (dk : Bool) (pp : Value) (most segs : Int) (sv : Value) (b : Nat) (i : Int) (m : M6) (w : World) (h : Row w b #[.int .i64 cm.a, .int .i64 cm.b, .int .i64 cm.c, .int .i64 cm.d, .int .i64 cm.x, .int .i64 cm.y, .int .i64 sp, .int .i64 p0, .int .i64 p1, .int .i64 p2, .int .i64 p3, .int .i64 wd, .int .i64 cp, .int .i64 jn, .int .i64 mt, dv, .int .i64 ph, .int .i64 fn, .int .i64 fm.a, .int .i64 fm.b, .int .i64 fm.c, .int .i64 fm.d, .int .i64 fm.x, .int .i64 fm.y, cv, .bool dk, pp, .int .i64 most, .int .i64 segs, sv]) (hv : Gs.chk (l6 m) = 0) (hi : ¬ (0 ≤ i ∧ i < 14)) (hT : Font.Tab w) :
    Calls Tryd.prog 27 #[.pointer (some ⟨b, 0, none⟩), .int .i64 i, .agg #[.int .i64 m.a, .int .i64 m.b, .int .i64 m.c, .int .i64 m.d, .int .i64 m.x, .int .i64 m.y]] w fun E w' => E = .returned (.int .i64 7) ∧ Up w w' := by
  have HR := Lib.hid h
  have HT := Lib.hid hT
  have HV := Lib.hid hv
  have hlt := h.lt
  have HW := Lib.hid (show (if 0 ≤ i ∧ i < 14 then Font.namesL.getD i.toNat [] else []) = [] from if_neg hi)
  clear h hT hv hi
  go_enter Tryd.func27, Tryd.ntmps27
  go_wp2_with (first
    | (go_at_call 45; ((with_reducible refine (Gs.check_calls ⟨b, 0, none⟩ (l6 m) 6 w.heap.size 0 6 rfl _ (by decide) (ints_row (cs := #[.int .i64 m.a, .int .i64 m.b, .int .i64 m.c, .int .i64 m.d, .int .i64 m.x, .int .i64 m.y]) (by (repeat' (with_reducible first | assumption | (refine Row.at _ _ ?_; (simp; done)) | refine Row.alloc ?_ _ | refine Row.drew ?_ | refine Row.drewN ?_ _ | refine Row.other ?_ (by first | (simp; done) | (simp; omega) | omega) _ | refine Row.up ?_ (by assumption) | refine Row.chg ?_ (by assumption) (by first | (simp; done) | (simp; omega))))) rfl) (by simp)).mono ?_); rw [HV.out]; rintro E w1 ⟨rfl, hu1⟩; have z1 := hu1.size; (try simp at z1); have RB : Row w1 b #[.int .i64 cm.a, .int .i64 cm.b, .int .i64 cm.c, .int .i64 cm.d, .int .i64 cm.x, .int .i64 cm.y, .int .i64 sp, .int .i64 p0, .int .i64 p1, .int .i64 p2, .int .i64 p3, .int .i64 wd, .int .i64 cp, .int .i64 jn, .int .i64 mt, dv, .int .i64 ph, .int .i64 fn, .int .i64 fm.a, .int .i64 fm.b, .int .i64 fm.c, .int .i64 fm.d, .int .i64 fm.x, .int .i64 fm.y, cv, .bool dk, pp, .int .i64 most, .int .i64 segs, sv] := Row.up (show Row _ b #[.int .i64 cm.a, .int .i64 cm.b, .int .i64 cm.c, .int .i64 cm.d, .int .i64 cm.x, .int .i64 cm.y, .int .i64 sp, .int .i64 p0, .int .i64 p1, .int .i64 p2, .int .i64 p3, .int .i64 wd, .int .i64 cp, .int .i64 jn, .int .i64 mt, dv, .int .i64 ph, .int .i64 fn, .int .i64 fm.a, .int .i64 fm.b, .int .i64 fm.c, .int .i64 fm.d, .int .i64 fm.x, .int .i64 fm.y, cv, .bool dk, pp, .int .i64 most, .int .i64 segs, sv] from HR.out.alloc _) hu1; have RB_lt := RB.lt; have RM : Row w1 w.heap.size #[.int .i64 m.a, .int .i64 m.b, .int .i64 m.c, .int .i64 m.d, .int .i64 m.x, .int .i64 m.y] := Row.up (show Row _ w.heap.size #[.int .i64 m.a, .int .i64 m.b, .int .i64 m.c, .int .i64 m.d, .int .i64 m.x, .int .i64 m.y] by (repeat' (with_reducible first | assumption | (refine Row.at _ _ ?_; (simp; done)) | refine Row.alloc ?_ _ | refine Row.drew ?_ | refine Row.drewN ?_ _ | refine Row.other ?_ (by first | (simp; done) | (simp; omega) | omega) _ | refine Row.up ?_ (by assumption) | refine Row.chg ?_ (by assumption) (by first | (simp; done) | (simp; omega))))) hu1; ))
    | (go_at_call 47; ((with_reducible refine (Font.name_calls _ _ (HT.out.up (by (repeat' (first | (with_reducible first | exact Up.refl _ | assumption | refine Up.alloc ?_ _ | refine Up.drew ?_ | refine Up.drewN ?_ _ | refine Up.setCell ?_ ?_ _ | refine Up.call ?_ (by assumption)) | go_size))))).mono ?_); rw [HW.out]; rintro E w2 ⟨rfl, rfl⟩)))
  go_ret
  exact ⟨rfl, by (repeat' (first | (with_reducible first | exact Up.refl _ | assumption | refine Up.alloc ?_ _ | refine Up.drew ?_ | refine Up.drewN ?_ _ | refine Up.setCell ?_ ?_ _ | refine Up.call ?_ (by assumption)) | go_size))⟩
set_option maxRecDepth 8000 in
set_option maxHeartbeats 1000000 in
theorem setFont_bad (cm : M6) (sp p0 p1 p2 p3 wd cp jn mt : Int) (dv : Value) (ph fn : Int) (fm : M6) (cv : Value) (dk : Bool) (pp : Value) (most segs : Int) (sv : Value) (b : Nat) (i : Int) (m : M6) (w : World) (h : Row w b #[.int .i64 cm.a, .int .i64 cm.b, .int .i64 cm.c, .int .i64 cm.d, .int .i64 cm.x, .int .i64 cm.y, .int .i64 sp, .int .i64 p0, .int .i64 p1, .int .i64 p2, .int .i64 p3, .int .i64 wd, .int .i64 cp, .int .i64 jn, .int .i64 mt, dv, .int .i64 ph, .int .i64 fn, .int .i64 fm.a, .int .i64 fm.b, .int .i64 fm.c, .int .i64 fm.d, .int .i64 fm.x, .int .i64 fm.y, cv, .bool dk, pp, .int .i64 most, .int .i64 segs, sv]) (hv : Gs.chk (l6 m) = 11) :
    Calls Tryd.prog 27 #[.pointer (some ⟨b, 0, none⟩), .int .i64 i, .agg #[.int .i64 m.a, .int .i64 m.b, .int .i64 m.c, .int .i64 m.d, .int .i64 m.x, .int .i64 m.y]] w fun E w' => E = .returned (.int .i64 11) ∧ Up w w' := by
  have HR := Lib.hid h
  have HV := Lib.hid hv
  have hlt := h.lt
  clear h hv
  go_enter Tryd.func27, Tryd.ntmps27
  go_wp2_with (go_at_call 45; ((with_reducible refine (Gs.check_calls ⟨b, 0, none⟩ (l6 m) 6 w.heap.size 0 6 rfl _ (by decide) (ints_row (cs := #[.int .i64 m.a, .int .i64 m.b, .int .i64 m.c, .int .i64 m.d, .int .i64 m.x, .int .i64 m.y]) (by (repeat' (with_reducible first | assumption | (refine Row.at _ _ ?_; (simp; done)) | refine Row.alloc ?_ _ | refine Row.drew ?_ | refine Row.drewN ?_ _ | refine Row.other ?_ (by first | (simp; done) | (simp; omega) | omega) _ | refine Row.up ?_ (by assumption) | refine Row.chg ?_ (by assumption) (by first | (simp; done) | (simp; omega))))) rfl) (by simp)).mono ?_); rw [HV.out]; rintro E w1 ⟨rfl, hu1⟩; have z1 := hu1.size; (try simp at z1); have RB : Row w1 b #[.int .i64 cm.a, .int .i64 cm.b, .int .i64 cm.c, .int .i64 cm.d, .int .i64 cm.x, .int .i64 cm.y, .int .i64 sp, .int .i64 p0, .int .i64 p1, .int .i64 p2, .int .i64 p3, .int .i64 wd, .int .i64 cp, .int .i64 jn, .int .i64 mt, dv, .int .i64 ph, .int .i64 fn, .int .i64 fm.a, .int .i64 fm.b, .int .i64 fm.c, .int .i64 fm.d, .int .i64 fm.x, .int .i64 fm.y, cv, .bool dk, pp, .int .i64 most, .int .i64 segs, sv] := Row.up (show Row _ b #[.int .i64 cm.a, .int .i64 cm.b, .int .i64 cm.c, .int .i64 cm.d, .int .i64 cm.x, .int .i64 cm.y, .int .i64 sp, .int .i64 p0, .int .i64 p1, .int .i64 p2, .int .i64 p3, .int .i64 wd, .int .i64 cp, .int .i64 jn, .int .i64 mt, dv, .int .i64 ph, .int .i64 fn, .int .i64 fm.a, .int .i64 fm.b, .int .i64 fm.c, .int .i64 fm.d, .int .i64 fm.x, .int .i64 fm.y, cv, .bool dk, pp, .int .i64 most, .int .i64 segs, sv] from HR.out.alloc _) hu1; have RB_lt := RB.lt; have RM : Row w1 w.heap.size #[.int .i64 m.a, .int .i64 m.b, .int .i64 m.c, .int .i64 m.d, .int .i64 m.x, .int .i64 m.y] := Row.up (show Row _ w.heap.size #[.int .i64 m.a, .int .i64 m.b, .int .i64 m.c, .int .i64 m.d, .int .i64 m.x, .int .i64 m.y] by (repeat' (with_reducible first | assumption | (refine Row.at _ _ ?_; (simp; done)) | refine Row.alloc ?_ _ | refine Row.drew ?_ | refine Row.drewN ?_ _ | refine Row.other ?_ (by first | (simp; done) | (simp; omega) | omega) _ | refine Row.up ?_ (by assumption) | refine Row.chg ?_ (by assumption) (by first | (simp; done) | (simp; omega))))) hu1; ))
  go_ret
  exact ⟨rfl, by (repeat' (first | (with_reducible first | exact Up.refl _ | assumption | refine Up.alloc ?_ _ | refine Up.drew ?_ | refine Up.drewN ?_ _ | refine Up.setCell ?_ ?_ _ | refine Up.call ?_ (by assumption)) | go_size))⟩
/-- a part from 0 to One -/
def clamp (x : Int) : Int := if 65536 < (if x < 0 then 0 else x) then 65536 else (if x < 0 then 0 else x)
def colAt (zs : List Int) (k j : Nat) : Int := if j < k then clamp (zs.getD j 0) else 0
theorem ints_own {w : World} {base : Nat} {e : TypeId} {g n cap : Nat} {zs : List Int} (h : w.ownsRow base e 1 (.slice (some ⟨g, 0, none⟩) n cap) n (zs.map (Value.int .i64))) : Gs.IntsAt w g 0 zs := fun i p hp => by
  rw [Nat.zero_add, h.cellAt i (by have := h.1; have h2 := (List.getElem?_eq_some_iff.1 hp).1; simp at this; omega), List.getElem?_map, hp]
  rfl
set_option maxRecDepth 8000 in
set_option maxHeartbeats 2000000 in
theorem setColor_1 (cm : M6) (sp p0 p1 p2 p3 wd cp jn mt : Int) (dv : Value) (ph fn : Int) (fm : M6) (cv : Value) (dk : Bool) (pp : Value) (most segs : Int) (sv : Value) (b : Nat) (lg lc : Nat) (x0 : Int) (w : World) (h : Row w b #[.int .i64 cm.a, .int .i64 cm.b, .int .i64 cm.c, .int .i64 cm.d, .int .i64 cm.x, .int .i64 cm.y, .int .i64 sp, .int .i64 p0, .int .i64 p1, .int .i64 p2, .int .i64 p3, .int .i64 wd, .int .i64 cp, .int .i64 jn, .int .i64 mt, dv, .int .i64 ph, .int .i64 fn, .int .i64 fm.a, .int .i64 fm.b, .int .i64 fm.c, .int .i64 fm.d, .int .i64 fm.x, .int .i64 fm.y, cv, .bool dk, pp, .int .i64 most, .int .i64 segs, sv]) (hI : Gs.IntsAt w lg 0 [x0]) (ll : lg < w.heap.size) (hv : Gs.chk [x0] = 0) :
    Calls Tryd.prog 28 #[.pointer (some ⟨b, 0, none⟩), .slice (some ⟨lg, 0, none⟩) 1 lc] w fun E w' => E = .returned (.int .i64 0) ∧ Row w' b #[.int .i64 cm.a, .int .i64 cm.b, .int .i64 cm.c, .int .i64 cm.d, .int .i64 cm.x, .int .i64 cm.y, .int .i64 1, .int .i64 ((clamp x0)), .int .i64 0, .int .i64 0, .int .i64 0, .int .i64 wd, .int .i64 cp, .int .i64 jn, .int .i64 mt, dv, .int .i64 ph, .int .i64 fn, .int .i64 fm.a, .int .i64 fm.b, .int .i64 fm.c, .int .i64 fm.d, .int .i64 fm.x, .int .i64 fm.y, cv, .bool dk, pp, .int .i64 most, .int .i64 segs, sv] ∧ Chg [b] w w' := by
  have HR := Lib.hid h
  have HV := Lib.hid hv
  have HI := Lib.hid hI
  have HN := Lib.hid (show ([x0] : List Int).length = 1 from rfl)
  have hlt := h.lt
  clear h hv hI
  go_enter Tryd.func28, Tryd.ntmps28
  go_wp2_with (go_at_call 45; ((with_reducible refine (Gs.check_calls ⟨b, 0, none⟩ [x0] 1 lg 0 lc HN.out _ (by omega) HI.out ll).mono ?_); rw [HV.out]; rintro E w1 ⟨rfl, hu1⟩; have z1 := hu1.size; have RB1 : Row w1 b #[.int .i64 cm.a, .int .i64 cm.b, .int .i64 cm.c, .int .i64 cm.d, .int .i64 cm.x, .int .i64 cm.y, .int .i64 sp, .int .i64 p0, .int .i64 p1, .int .i64 p2, .int .i64 p3, .int .i64 wd, .int .i64 cp, .int .i64 jn, .int .i64 mt, dv, .int .i64 ph, .int .i64 fn, .int .i64 fm.a, .int .i64 fm.b, .int .i64 fm.c, .int .i64 fm.d, .int .i64 fm.x, .int .i64 fm.y, cv, .bool dk, pp, .int .i64 most, .int .i64 segs, sv] := Row.up HR.out hu1; have lb1 := RB1.lt; have HU1 := Lib.hid hu1; have HI1 := Lib.hid (HI.out.up ll hu1); have ll1 : lg < w1.heap.size := Nat.lt_of_lt_of_le ll hu1.size))
  go_loopw [32] (fun s32 wr => ∃ k : Nat, k ≤ 1 ∧ s32 = .int .i64 k ∧ Hid (Row wr w1.heap.size #[.int .i64 1, .int .i64 (colAt [x0] k 0), .int .i64 (colAt [x0] k 1), .int .i64 (colAt [x0] k 2), .int .i64 (colAt [x0] k 3)]) ∧ Hid (Chg [w1.heap.size] w1 wr)) (fun s32 _ => 1 - (intOf s32).toNat)
  case atStart => exact ⟨0, Nat.zero_le _, rfl, Lib.hid (by apply cast; (case h => (repeat (first | (with_reducible first | assumption | (apply Row.at; (simp; done)) | apply Row.alloc | apply Row.drew | apply Row.drewN | apply Row.set) | ((with_reducible apply Row.other); (case hp => first | (simp; done) | (simp; omega) | omega))))); (case e => rfl)), Lib.hid (by (repeat' (first | (with_reducible first | exact Chg.refl _ _ | assumption | refine Chg.alloc ?_ _ | refine Chg.drew ?_ | refine Chg.drewN ?_ _ | refine Chg.setCell ?_ ?_ _ | refine Chg.upc ?_ (by assumption) | refine Chg.call ?_ (by assumption) ?_) | (refine Or.inl ?_; (simp; done)) | (simp; done) | (simp; omega) | omega)))⟩
  case round =>
    obtain ⟨k, hk, rfl, HRW, HC⟩ := hrel
    have hzr := HC.out.size
    have RW := HRW.out
    have lW := RW.lt
    by_cases hk0 : k = 0
    · subst hk0
      have qx : wr.cell? ⟨lg, 0, none⟩ = some (.int .i64 x0) := (HC.out.cells.1 lg 0 ll1 (by simp; omega)).trans (by have := HI1.out 0 x0 rfl; rwa [Nat.zero_add] at this)
      have c0 := RW.cell 1 rfl
      have f0 := RW.free 1
      go_wp2
      go_roundw
      case rel => exact ⟨1, by omega, by go_num, Lib.hid (by apply cast; (case h => (repeat (first | (with_reducible first | assumption | (apply Row.at; (simp; done)) | apply Row.alloc | apply Row.drew | apply Row.drewN | apply Row.set) | ((with_reducible apply Row.other); (case hp => first | (simp; done) | (simp; omega) | omega))))); (case e => rfl)), Lib.hid (by have := HC.out; (repeat' (first | (with_reducible first | exact Chg.refl _ _ | assumption | refine Chg.alloc ?_ _ | refine Chg.drew ?_ | refine Chg.drewN ?_ _ | refine Chg.setCell ?_ ?_ _ | refine Chg.upc ?_ (by assumption) | refine Chg.call ?_ (by assumption) ?_) | (refine Or.inl ?_; (simp; done)) | (simp; done) | (simp; omega) | omega)))⟩
      case measure => simp [intOf]
    obtain rfl : k = 1 := by omega
    have RBr : Row wr b #[.int .i64 cm.a, .int .i64 cm.b, .int .i64 cm.c, .int .i64 cm.d, .int .i64 cm.x, .int .i64 cm.y, .int .i64 sp, .int .i64 p0, .int .i64 p1, .int .i64 p2, .int .i64 p3, .int .i64 wd, .int .i64 cp, .int .i64 jn, .int .i64 mt, dv, .int .i64 ph, .int .i64 fn, .int .i64 fm.a, .int .i64 fm.b, .int .i64 fm.c, .int .i64 fm.d, .int .i64 fm.x, .int .i64 fm.y, cv, .bool dk, pp, .int .i64 most, .int .i64 segs, sv] := RB1.chg HC.out (by simp; omega)
    have lbr := RBr.lt
    have g6 := RBr.cell 6 rfl
    have e6 := RBr.free 6
    have c0 := RW.cell 0 rfl
    have g7 := RBr.cell 7 rfl
    have e7 := RBr.free 7
    have c1 := RW.cell 1 rfl
    have g8 := RBr.cell 8 rfl
    have e8 := RBr.free 8
    have c2 := RW.cell 2 rfl
    have g9 := RBr.cell 9 rfl
    have e9 := RBr.free 9
    have c3 := RW.cell 3 rfl
    have g10 := RBr.cell 10 rfl
    have e10 := RBr.free 10
    have c4 := RW.cell 4 rfl
    go_wp2
    go_ret
    exact ⟨rfl, (by apply cast; (case h => (repeat (first | (with_reducible first | assumption | (apply Row.at; (simp; done)) | apply Row.alloc | apply Row.drew | apply Row.drewN | apply Row.set) | ((with_reducible apply Row.other); (case hp => first | (simp; done) | (simp; omega) | omega))))); (case e => rfl)), by (have h1 := Chg.of_up (S := [b]) HU1.out; have h2 : Chg [b] w wr := h1.call HC.out (fun k hk => Or.inr (by simp at hk; omega)); (repeat' (first | (with_reducible first | exact Chg.refl _ _ | assumption | refine Chg.alloc ?_ _ | refine Chg.drew ?_ | refine Chg.drewN ?_ _ | refine Chg.setCell ?_ ?_ _ | refine Chg.upc ?_ (by assumption) | refine Chg.call ?_ (by assumption) ?_) | (refine Or.inl ?_; (simp; done)) | (simp; done) | (simp; omega) | omega)))⟩
set_option maxRecDepth 8000 in
set_option maxHeartbeats 2000000 in
theorem setColor_3 (cm : M6) (sp p0 p1 p2 p3 wd cp jn mt : Int) (dv : Value) (ph fn : Int) (fm : M6) (cv : Value) (dk : Bool) (pp : Value) (most segs : Int) (sv : Value) (b : Nat) (lg lc : Nat) (x0 x1 x2 : Int) (w : World) (h : Row w b #[.int .i64 cm.a, .int .i64 cm.b, .int .i64 cm.c, .int .i64 cm.d, .int .i64 cm.x, .int .i64 cm.y, .int .i64 sp, .int .i64 p0, .int .i64 p1, .int .i64 p2, .int .i64 p3, .int .i64 wd, .int .i64 cp, .int .i64 jn, .int .i64 mt, dv, .int .i64 ph, .int .i64 fn, .int .i64 fm.a, .int .i64 fm.b, .int .i64 fm.c, .int .i64 fm.d, .int .i64 fm.x, .int .i64 fm.y, cv, .bool dk, pp, .int .i64 most, .int .i64 segs, sv]) (hI : Gs.IntsAt w lg 0 [x0, x1, x2]) (ll : lg < w.heap.size) (hv : Gs.chk [x0, x1, x2] = 0) :
    Calls Tryd.prog 28 #[.pointer (some ⟨b, 0, none⟩), .slice (some ⟨lg, 0, none⟩) 3 lc] w fun E w' => E = .returned (.int .i64 0) ∧ Row w' b #[.int .i64 cm.a, .int .i64 cm.b, .int .i64 cm.c, .int .i64 cm.d, .int .i64 cm.x, .int .i64 cm.y, .int .i64 3, .int .i64 ((clamp x0)), .int .i64 ((clamp x1)), .int .i64 ((clamp x2)), .int .i64 0, .int .i64 wd, .int .i64 cp, .int .i64 jn, .int .i64 mt, dv, .int .i64 ph, .int .i64 fn, .int .i64 fm.a, .int .i64 fm.b, .int .i64 fm.c, .int .i64 fm.d, .int .i64 fm.x, .int .i64 fm.y, cv, .bool dk, pp, .int .i64 most, .int .i64 segs, sv] ∧ Chg [b] w w' := by
  have HR := Lib.hid h
  have HV := Lib.hid hv
  have HI := Lib.hid hI
  have HN := Lib.hid (show ([x0, x1, x2] : List Int).length = 3 from rfl)
  have hlt := h.lt
  clear h hv hI
  go_enter Tryd.func28, Tryd.ntmps28
  go_wp2_with (go_at_call 45; ((with_reducible refine (Gs.check_calls ⟨b, 0, none⟩ [x0, x1, x2] 3 lg 0 lc HN.out _ (by omega) HI.out ll).mono ?_); rw [HV.out]; rintro E w1 ⟨rfl, hu1⟩; have z1 := hu1.size; have RB1 : Row w1 b #[.int .i64 cm.a, .int .i64 cm.b, .int .i64 cm.c, .int .i64 cm.d, .int .i64 cm.x, .int .i64 cm.y, .int .i64 sp, .int .i64 p0, .int .i64 p1, .int .i64 p2, .int .i64 p3, .int .i64 wd, .int .i64 cp, .int .i64 jn, .int .i64 mt, dv, .int .i64 ph, .int .i64 fn, .int .i64 fm.a, .int .i64 fm.b, .int .i64 fm.c, .int .i64 fm.d, .int .i64 fm.x, .int .i64 fm.y, cv, .bool dk, pp, .int .i64 most, .int .i64 segs, sv] := Row.up HR.out hu1; have lb1 := RB1.lt; have HU1 := Lib.hid hu1; have HI1 := Lib.hid (HI.out.up ll hu1); have ll1 : lg < w1.heap.size := Nat.lt_of_lt_of_le ll hu1.size))
  go_loopw [32] (fun s32 wr => ∃ k : Nat, k ≤ 3 ∧ s32 = .int .i64 k ∧ Hid (Row wr w1.heap.size #[.int .i64 3, .int .i64 (colAt [x0, x1, x2] k 0), .int .i64 (colAt [x0, x1, x2] k 1), .int .i64 (colAt [x0, x1, x2] k 2), .int .i64 (colAt [x0, x1, x2] k 3)]) ∧ Hid (Chg [w1.heap.size] w1 wr)) (fun s32 _ => 3 - (intOf s32).toNat)
  case atStart => exact ⟨0, Nat.zero_le _, rfl, Lib.hid (by apply cast; (case h => (repeat (first | (with_reducible first | assumption | (apply Row.at; (simp; done)) | apply Row.alloc | apply Row.drew | apply Row.drewN | apply Row.set) | ((with_reducible apply Row.other); (case hp => first | (simp; done) | (simp; omega) | omega))))); (case e => rfl)), Lib.hid (by (repeat' (first | (with_reducible first | exact Chg.refl _ _ | assumption | refine Chg.alloc ?_ _ | refine Chg.drew ?_ | refine Chg.drewN ?_ _ | refine Chg.setCell ?_ ?_ _ | refine Chg.upc ?_ (by assumption) | refine Chg.call ?_ (by assumption) ?_) | (refine Or.inl ?_; (simp; done)) | (simp; done) | (simp; omega) | omega)))⟩
  case round =>
    obtain ⟨k, hk, rfl, HRW, HC⟩ := hrel
    have hzr := HC.out.size
    have RW := HRW.out
    have lW := RW.lt
    by_cases hk0 : k = 0
    · subst hk0
      have qx : wr.cell? ⟨lg, 0, none⟩ = some (.int .i64 x0) := (HC.out.cells.1 lg 0 ll1 (by simp; omega)).trans (by have := HI1.out 0 x0 rfl; rwa [Nat.zero_add] at this)
      have c0 := RW.cell 1 rfl
      have f0 := RW.free 1
      go_wp2
      go_roundw
      case rel => exact ⟨1, by omega, by go_num, Lib.hid (by apply cast; (case h => (repeat (first | (with_reducible first | assumption | (apply Row.at; (simp; done)) | apply Row.alloc | apply Row.drew | apply Row.drewN | apply Row.set) | ((with_reducible apply Row.other); (case hp => first | (simp; done) | (simp; omega) | omega))))); (case e => rfl)), Lib.hid (by have := HC.out; (repeat' (first | (with_reducible first | exact Chg.refl _ _ | assumption | refine Chg.alloc ?_ _ | refine Chg.drew ?_ | refine Chg.drewN ?_ _ | refine Chg.setCell ?_ ?_ _ | refine Chg.upc ?_ (by assumption) | refine Chg.call ?_ (by assumption) ?_) | (refine Or.inl ?_; (simp; done)) | (simp; done) | (simp; omega) | omega)))⟩
      case measure => simp [intOf]
    by_cases hk1 : k = 1
    · subst hk1
      have qx : wr.cell? ⟨lg, 1, none⟩ = some (.int .i64 x1) := (HC.out.cells.1 lg 1 ll1 (by simp; omega)).trans (by have := HI1.out 1 x1 rfl; rwa [Nat.zero_add] at this)
      have c1 := RW.cell 2 rfl
      have f1 := RW.free 2
      go_wp2
      go_roundw
      case rel => exact ⟨2, by omega, by go_num, Lib.hid (by apply cast; (case h => (repeat (first | (with_reducible first | assumption | (apply Row.at; (simp; done)) | apply Row.alloc | apply Row.drew | apply Row.drewN | apply Row.set) | ((with_reducible apply Row.other); (case hp => first | (simp; done) | (simp; omega) | omega))))); (case e => rfl)), Lib.hid (by have := HC.out; (repeat' (first | (with_reducible first | exact Chg.refl _ _ | assumption | refine Chg.alloc ?_ _ | refine Chg.drew ?_ | refine Chg.drewN ?_ _ | refine Chg.setCell ?_ ?_ _ | refine Chg.upc ?_ (by assumption) | refine Chg.call ?_ (by assumption) ?_) | (refine Or.inl ?_; (simp; done)) | (simp; done) | (simp; omega) | omega)))⟩
      case measure => simp [intOf]
    by_cases hk2 : k = 2
    · subst hk2
      have qx : wr.cell? ⟨lg, 2, none⟩ = some (.int .i64 x2) := (HC.out.cells.1 lg 2 ll1 (by simp; omega)).trans (by have := HI1.out 2 x2 rfl; rwa [Nat.zero_add] at this)
      have c2 := RW.cell 3 rfl
      have f2 := RW.free 3
      go_wp2
      go_roundw
      case rel => exact ⟨3, by omega, by go_num, Lib.hid (by apply cast; (case h => (repeat (first | (with_reducible first | assumption | (apply Row.at; (simp; done)) | apply Row.alloc | apply Row.drew | apply Row.drewN | apply Row.set) | ((with_reducible apply Row.other); (case hp => first | (simp; done) | (simp; omega) | omega))))); (case e => rfl)), Lib.hid (by have := HC.out; (repeat' (first | (with_reducible first | exact Chg.refl _ _ | assumption | refine Chg.alloc ?_ _ | refine Chg.drew ?_ | refine Chg.drewN ?_ _ | refine Chg.setCell ?_ ?_ _ | refine Chg.upc ?_ (by assumption) | refine Chg.call ?_ (by assumption) ?_) | (refine Or.inl ?_; (simp; done)) | (simp; done) | (simp; omega) | omega)))⟩
      case measure => simp [intOf]
    obtain rfl : k = 3 := by omega
    have RBr : Row wr b #[.int .i64 cm.a, .int .i64 cm.b, .int .i64 cm.c, .int .i64 cm.d, .int .i64 cm.x, .int .i64 cm.y, .int .i64 sp, .int .i64 p0, .int .i64 p1, .int .i64 p2, .int .i64 p3, .int .i64 wd, .int .i64 cp, .int .i64 jn, .int .i64 mt, dv, .int .i64 ph, .int .i64 fn, .int .i64 fm.a, .int .i64 fm.b, .int .i64 fm.c, .int .i64 fm.d, .int .i64 fm.x, .int .i64 fm.y, cv, .bool dk, pp, .int .i64 most, .int .i64 segs, sv] := RB1.chg HC.out (by simp; omega)
    have lbr := RBr.lt
    have g6 := RBr.cell 6 rfl
    have e6 := RBr.free 6
    have c0 := RW.cell 0 rfl
    have g7 := RBr.cell 7 rfl
    have e7 := RBr.free 7
    have c1 := RW.cell 1 rfl
    have g8 := RBr.cell 8 rfl
    have e8 := RBr.free 8
    have c2 := RW.cell 2 rfl
    have g9 := RBr.cell 9 rfl
    have e9 := RBr.free 9
    have c3 := RW.cell 3 rfl
    have g10 := RBr.cell 10 rfl
    have e10 := RBr.free 10
    have c4 := RW.cell 4 rfl
    go_wp2
    go_ret
    exact ⟨rfl, (by apply cast; (case h => (repeat (first | (with_reducible first | assumption | (apply Row.at; (simp; done)) | apply Row.alloc | apply Row.drew | apply Row.drewN | apply Row.set) | ((with_reducible apply Row.other); (case hp => first | (simp; done) | (simp; omega) | omega))))); (case e => rfl)), by (have h1 := Chg.of_up (S := [b]) HU1.out; have h2 : Chg [b] w wr := h1.call HC.out (fun k hk => Or.inr (by simp at hk; omega)); (repeat' (first | (with_reducible first | exact Chg.refl _ _ | assumption | refine Chg.alloc ?_ _ | refine Chg.drew ?_ | refine Chg.drewN ?_ _ | refine Chg.setCell ?_ ?_ _ | refine Chg.upc ?_ (by assumption) | refine Chg.call ?_ (by assumption) ?_) | (refine Or.inl ?_; (simp; done)) | (simp; done) | (simp; omega) | omega)))⟩
set_option maxRecDepth 8000 in
set_option maxHeartbeats 2000000 in
theorem setColor_4 (cm : M6) (sp p0 p1 p2 p3 wd cp jn mt : Int) (dv : Value) (ph fn : Int) (fm : M6) (cv : Value) (dk : Bool) (pp : Value) (most segs : Int) (sv : Value) (b : Nat) (lg lc : Nat) (x0 x1 x2 x3 : Int) (w : World) (h : Row w b #[.int .i64 cm.a, .int .i64 cm.b, .int .i64 cm.c, .int .i64 cm.d, .int .i64 cm.x, .int .i64 cm.y, .int .i64 sp, .int .i64 p0, .int .i64 p1, .int .i64 p2, .int .i64 p3, .int .i64 wd, .int .i64 cp, .int .i64 jn, .int .i64 mt, dv, .int .i64 ph, .int .i64 fn, .int .i64 fm.a, .int .i64 fm.b, .int .i64 fm.c, .int .i64 fm.d, .int .i64 fm.x, .int .i64 fm.y, cv, .bool dk, pp, .int .i64 most, .int .i64 segs, sv]) (hI : Gs.IntsAt w lg 0 [x0, x1, x2, x3]) (ll : lg < w.heap.size) (hv : Gs.chk [x0, x1, x2, x3] = 0) :
    Calls Tryd.prog 28 #[.pointer (some ⟨b, 0, none⟩), .slice (some ⟨lg, 0, none⟩) 4 lc] w fun E w' => E = .returned (.int .i64 0) ∧ Row w' b #[.int .i64 cm.a, .int .i64 cm.b, .int .i64 cm.c, .int .i64 cm.d, .int .i64 cm.x, .int .i64 cm.y, .int .i64 4, .int .i64 ((clamp x0)), .int .i64 ((clamp x1)), .int .i64 ((clamp x2)), .int .i64 ((clamp x3)), .int .i64 wd, .int .i64 cp, .int .i64 jn, .int .i64 mt, dv, .int .i64 ph, .int .i64 fn, .int .i64 fm.a, .int .i64 fm.b, .int .i64 fm.c, .int .i64 fm.d, .int .i64 fm.x, .int .i64 fm.y, cv, .bool dk, pp, .int .i64 most, .int .i64 segs, sv] ∧ Chg [b] w w' := by
  have HR := Lib.hid h
  have HV := Lib.hid hv
  have HI := Lib.hid hI
  have HN := Lib.hid (show ([x0, x1, x2, x3] : List Int).length = 4 from rfl)
  have hlt := h.lt
  clear h hv hI
  go_enter Tryd.func28, Tryd.ntmps28
  go_wp2_with (go_at_call 45; ((with_reducible refine (Gs.check_calls ⟨b, 0, none⟩ [x0, x1, x2, x3] 4 lg 0 lc HN.out _ (by omega) HI.out ll).mono ?_); rw [HV.out]; rintro E w1 ⟨rfl, hu1⟩; have z1 := hu1.size; have RB1 : Row w1 b #[.int .i64 cm.a, .int .i64 cm.b, .int .i64 cm.c, .int .i64 cm.d, .int .i64 cm.x, .int .i64 cm.y, .int .i64 sp, .int .i64 p0, .int .i64 p1, .int .i64 p2, .int .i64 p3, .int .i64 wd, .int .i64 cp, .int .i64 jn, .int .i64 mt, dv, .int .i64 ph, .int .i64 fn, .int .i64 fm.a, .int .i64 fm.b, .int .i64 fm.c, .int .i64 fm.d, .int .i64 fm.x, .int .i64 fm.y, cv, .bool dk, pp, .int .i64 most, .int .i64 segs, sv] := Row.up HR.out hu1; have lb1 := RB1.lt; have HU1 := Lib.hid hu1; have HI1 := Lib.hid (HI.out.up ll hu1); have ll1 : lg < w1.heap.size := Nat.lt_of_lt_of_le ll hu1.size))
  go_loopw [32] (fun s32 wr => ∃ k : Nat, k ≤ 4 ∧ s32 = .int .i64 k ∧ Hid (Row wr w1.heap.size #[.int .i64 4, .int .i64 (colAt [x0, x1, x2, x3] k 0), .int .i64 (colAt [x0, x1, x2, x3] k 1), .int .i64 (colAt [x0, x1, x2, x3] k 2), .int .i64 (colAt [x0, x1, x2, x3] k 3)]) ∧ Hid (Chg [w1.heap.size] w1 wr)) (fun s32 _ => 4 - (intOf s32).toNat)
  case atStart => exact ⟨0, Nat.zero_le _, rfl, Lib.hid (by apply cast; (case h => (repeat (first | (with_reducible first | assumption | (apply Row.at; (simp; done)) | apply Row.alloc | apply Row.drew | apply Row.drewN | apply Row.set) | ((with_reducible apply Row.other); (case hp => first | (simp; done) | (simp; omega) | omega))))); (case e => rfl)), Lib.hid (by (repeat' (first | (with_reducible first | exact Chg.refl _ _ | assumption | refine Chg.alloc ?_ _ | refine Chg.drew ?_ | refine Chg.drewN ?_ _ | refine Chg.setCell ?_ ?_ _ | refine Chg.upc ?_ (by assumption) | refine Chg.call ?_ (by assumption) ?_) | (refine Or.inl ?_; (simp; done)) | (simp; done) | (simp; omega) | omega)))⟩
  case round =>
    obtain ⟨k, hk, rfl, HRW, HC⟩ := hrel
    have hzr := HC.out.size
    have RW := HRW.out
    have lW := RW.lt
    by_cases hk0 : k = 0
    · subst hk0
      have qx : wr.cell? ⟨lg, 0, none⟩ = some (.int .i64 x0) := (HC.out.cells.1 lg 0 ll1 (by simp; omega)).trans (by have := HI1.out 0 x0 rfl; rwa [Nat.zero_add] at this)
      have c0 := RW.cell 1 rfl
      have f0 := RW.free 1
      go_wp2
      go_roundw
      case rel => exact ⟨1, by omega, by go_num, Lib.hid (by apply cast; (case h => (repeat (first | (with_reducible first | assumption | (apply Row.at; (simp; done)) | apply Row.alloc | apply Row.drew | apply Row.drewN | apply Row.set) | ((with_reducible apply Row.other); (case hp => first | (simp; done) | (simp; omega) | omega))))); (case e => rfl)), Lib.hid (by have := HC.out; (repeat' (first | (with_reducible first | exact Chg.refl _ _ | assumption | refine Chg.alloc ?_ _ | refine Chg.drew ?_ | refine Chg.drewN ?_ _ | refine Chg.setCell ?_ ?_ _ | refine Chg.upc ?_ (by assumption) | refine Chg.call ?_ (by assumption) ?_) | (refine Or.inl ?_; (simp; done)) | (simp; done) | (simp; omega) | omega)))⟩
      case measure => simp [intOf]
    by_cases hk1 : k = 1
    · subst hk1
      have qx : wr.cell? ⟨lg, 1, none⟩ = some (.int .i64 x1) := (HC.out.cells.1 lg 1 ll1 (by simp; omega)).trans (by have := HI1.out 1 x1 rfl; rwa [Nat.zero_add] at this)
      have c1 := RW.cell 2 rfl
      have f1 := RW.free 2
      go_wp2
      go_roundw
      case rel => exact ⟨2, by omega, by go_num, Lib.hid (by apply cast; (case h => (repeat (first | (with_reducible first | assumption | (apply Row.at; (simp; done)) | apply Row.alloc | apply Row.drew | apply Row.drewN | apply Row.set) | ((with_reducible apply Row.other); (case hp => first | (simp; done) | (simp; omega) | omega))))); (case e => rfl)), Lib.hid (by have := HC.out; (repeat' (first | (with_reducible first | exact Chg.refl _ _ | assumption | refine Chg.alloc ?_ _ | refine Chg.drew ?_ | refine Chg.drewN ?_ _ | refine Chg.setCell ?_ ?_ _ | refine Chg.upc ?_ (by assumption) | refine Chg.call ?_ (by assumption) ?_) | (refine Or.inl ?_; (simp; done)) | (simp; done) | (simp; omega) | omega)))⟩
      case measure => simp [intOf]
    by_cases hk2 : k = 2
    · subst hk2
      have qx : wr.cell? ⟨lg, 2, none⟩ = some (.int .i64 x2) := (HC.out.cells.1 lg 2 ll1 (by simp; omega)).trans (by have := HI1.out 2 x2 rfl; rwa [Nat.zero_add] at this)
      have c2 := RW.cell 3 rfl
      have f2 := RW.free 3
      go_wp2
      go_roundw
      case rel => exact ⟨3, by omega, by go_num, Lib.hid (by apply cast; (case h => (repeat (first | (with_reducible first | assumption | (apply Row.at; (simp; done)) | apply Row.alloc | apply Row.drew | apply Row.drewN | apply Row.set) | ((with_reducible apply Row.other); (case hp => first | (simp; done) | (simp; omega) | omega))))); (case e => rfl)), Lib.hid (by have := HC.out; (repeat' (first | (with_reducible first | exact Chg.refl _ _ | assumption | refine Chg.alloc ?_ _ | refine Chg.drew ?_ | refine Chg.drewN ?_ _ | refine Chg.setCell ?_ ?_ _ | refine Chg.upc ?_ (by assumption) | refine Chg.call ?_ (by assumption) ?_) | (refine Or.inl ?_; (simp; done)) | (simp; done) | (simp; omega) | omega)))⟩
      case measure => simp [intOf]
    by_cases hk3 : k = 3
    · subst hk3
      have qx : wr.cell? ⟨lg, 3, none⟩ = some (.int .i64 x3) := (HC.out.cells.1 lg 3 ll1 (by simp; omega)).trans (by have := HI1.out 3 x3 rfl; rwa [Nat.zero_add] at this)
      have c3 := RW.cell 4 rfl
      have f3 := RW.free 4
      go_wp2
      go_roundw
      case rel => exact ⟨4, by omega, by go_num, Lib.hid (by apply cast; (case h => (repeat (first | (with_reducible first | assumption | (apply Row.at; (simp; done)) | apply Row.alloc | apply Row.drew | apply Row.drewN | apply Row.set) | ((with_reducible apply Row.other); (case hp => first | (simp; done) | (simp; omega) | omega))))); (case e => rfl)), Lib.hid (by have := HC.out; (repeat' (first | (with_reducible first | exact Chg.refl _ _ | assumption | refine Chg.alloc ?_ _ | refine Chg.drew ?_ | refine Chg.drewN ?_ _ | refine Chg.setCell ?_ ?_ _ | refine Chg.upc ?_ (by assumption) | refine Chg.call ?_ (by assumption) ?_) | (refine Or.inl ?_; (simp; done)) | (simp; done) | (simp; omega) | omega)))⟩
      case measure => simp [intOf]
    obtain rfl : k = 4 := by omega
    have RBr : Row wr b #[.int .i64 cm.a, .int .i64 cm.b, .int .i64 cm.c, .int .i64 cm.d, .int .i64 cm.x, .int .i64 cm.y, .int .i64 sp, .int .i64 p0, .int .i64 p1, .int .i64 p2, .int .i64 p3, .int .i64 wd, .int .i64 cp, .int .i64 jn, .int .i64 mt, dv, .int .i64 ph, .int .i64 fn, .int .i64 fm.a, .int .i64 fm.b, .int .i64 fm.c, .int .i64 fm.d, .int .i64 fm.x, .int .i64 fm.y, cv, .bool dk, pp, .int .i64 most, .int .i64 segs, sv] := RB1.chg HC.out (by simp; omega)
    have lbr := RBr.lt
    have g6 := RBr.cell 6 rfl
    have e6 := RBr.free 6
    have c0 := RW.cell 0 rfl
    have g7 := RBr.cell 7 rfl
    have e7 := RBr.free 7
    have c1 := RW.cell 1 rfl
    have g8 := RBr.cell 8 rfl
    have e8 := RBr.free 8
    have c2 := RW.cell 2 rfl
    have g9 := RBr.cell 9 rfl
    have e9 := RBr.free 9
    have c3 := RW.cell 3 rfl
    have g10 := RBr.cell 10 rfl
    have e10 := RBr.free 10
    have c4 := RW.cell 4 rfl
    go_wp2
    go_ret
    exact ⟨rfl, (by apply cast; (case h => (repeat (first | (with_reducible first | assumption | (apply Row.at; (simp; done)) | apply Row.alloc | apply Row.drew | apply Row.drewN | apply Row.set) | ((with_reducible apply Row.other); (case hp => first | (simp; done) | (simp; omega) | omega))))); (case e => rfl)), by (have h1 := Chg.of_up (S := [b]) HU1.out; have h2 : Chg [b] w wr := h1.call HC.out (fun k hk => Or.inr (by simp at hk; omega)); (repeat' (first | (with_reducible first | exact Chg.refl _ _ | assumption | refine Chg.alloc ?_ _ | refine Chg.drew ?_ | refine Chg.drewN ?_ _ | refine Chg.setCell ?_ ?_ _ | refine Chg.upc ?_ (by assumption) | refine Chg.call ?_ (by assumption) ?_) | (refine Or.inl ?_; (simp; done)) | (simp; done) | (simp; omega) | omega)))⟩

set_option maxRecDepth 8000 in
set_option maxHeartbeats 1000000 in
theorem setColor_far (cm : M6) (sp p0 p1 p2 p3 wd cp jn mt : Int) (dv : Value) (ph fn : Int) (fm : M6) (cv : Value) (dk : Bool) (pp : Value) (most segs : Int) (sv : Value) (b : Nat) (lg N lc : Nat) (zs : List Int) (w : World) (h : Row w b #[.int .i64 cm.a, .int .i64 cm.b, .int .i64 cm.c, .int .i64 cm.d, .int .i64 cm.x, .int .i64 cm.y, .int .i64 sp, .int .i64 p0, .int .i64 p1, .int .i64 p2, .int .i64 p3, .int .i64 wd, .int .i64 cp, .int .i64 jn, .int .i64 mt, dv, .int .i64 ph, .int .i64 fn, .int .i64 fm.a, .int .i64 fm.b, .int .i64 fm.c, .int .i64 fm.d, .int .i64 fm.x, .int .i64 fm.y, cv, .bool dk, pp, .int .i64 most, .int .i64 segs, sv]) (hI : Gs.IntsAt w lg 0 zs) (hN : zs.length = N) (hl : N ≤ 1000) (ll : lg < w.heap.size) (hv : Gs.chk zs = 11) :
    Calls Tryd.prog 28 #[.pointer (some ⟨b, 0, none⟩), .slice (some ⟨lg, 0, none⟩) N lc] w fun E w' => E = .returned (.int .i64 11) ∧ Up w w' := by
  have HR := Lib.hid h
  have HV := Lib.hid hv
  have HI := Lib.hid hI
  have HN := Lib.hid hN
  clear h hv hI hN
  go_enter Tryd.func28, Tryd.ntmps28
  go_wp2_with (go_at_call 45; ((with_reducible refine (Gs.check_calls ⟨b, 0, none⟩ zs N lg 0 lc HN.out _ (by omega) HI.out ll).mono ?_); rw [HV.out]; rintro E w1 ⟨rfl, hu1⟩; have z1 := hu1.size; have RB1 : Row w1 b #[.int .i64 cm.a, .int .i64 cm.b, .int .i64 cm.c, .int .i64 cm.d, .int .i64 cm.x, .int .i64 cm.y, .int .i64 sp, .int .i64 p0, .int .i64 p1, .int .i64 p2, .int .i64 p3, .int .i64 wd, .int .i64 cp, .int .i64 jn, .int .i64 mt, dv, .int .i64 ph, .int .i64 fn, .int .i64 fm.a, .int .i64 fm.b, .int .i64 fm.c, .int .i64 fm.d, .int .i64 fm.x, .int .i64 fm.y, cv, .bool dk, pp, .int .i64 most, .int .i64 segs, sv] := Row.up HR.out hu1; have lb1 := RB1.lt; have HU1 := Lib.hid hu1; have HI1 := Lib.hid (HI.out.up ll hu1); have ll1 : lg < w1.heap.size := Nat.lt_of_lt_of_le ll hu1.size))
  go_ret
  exact ⟨rfl, by (repeat' (first | (with_reducible first | exact Up.refl _ | assumption | refine Up.alloc ?_ _ | refine Up.drew ?_ | refine Up.drewN ?_ _ | refine Up.setCell ?_ ?_ _ | refine Up.call ?_ (by assumption)) | go_size))⟩
set_option maxRecDepth 8000 in
set_option maxHeartbeats 1000000 in
theorem setColor_bad (cm : M6) (sp p0 p1 p2 p3 wd cp jn mt : Int) (dv : Value) (ph fn : Int) (fm : M6) (cv : Value) (dk : Bool) (pp : Value) (most segs : Int) (sv : Value) (b : Nat) (lg N lc : Nat) (zs : List Int) (w : World) (h : Row w b #[.int .i64 cm.a, .int .i64 cm.b, .int .i64 cm.c, .int .i64 cm.d, .int .i64 cm.x, .int .i64 cm.y, .int .i64 sp, .int .i64 p0, .int .i64 p1, .int .i64 p2, .int .i64 p3, .int .i64 wd, .int .i64 cp, .int .i64 jn, .int .i64 mt, dv, .int .i64 ph, .int .i64 fn, .int .i64 fm.a, .int .i64 fm.b, .int .i64 fm.c, .int .i64 fm.d, .int .i64 fm.x, .int .i64 fm.y, cv, .bool dk, pp, .int .i64 most, .int .i64 segs, sv]) (hI : Gs.IntsAt w lg 0 zs) (hN : zs.length = N) (hl : N ≤ 1000) (ll : lg < w.heap.size) (hv : Gs.chk zs = 0) (h1 : N ≠ 1) (h3 : N ≠ 3) (h4 : N ≠ 4) :
    Calls Tryd.prog 28 #[.pointer (some ⟨b, 0, none⟩), .slice (some ⟨lg, 0, none⟩) N lc] w fun E w' => E = .returned (.int .i64 11) ∧ Up w w' := by
  have HR := Lib.hid h
  have HV := Lib.hid hv
  have HI := Lib.hid hI
  have HN := Lib.hid hN
  have t1 : ((N : Int) != 1) = true := by simp; omega
  have t3 : ((N : Int) != 3) = true := by simp; omega
  have t4 : ((N : Int) != 4) = true := by simp; omega
  clear h hv hI hN h1 h3 h4
  go_enter Tryd.func28, Tryd.ntmps28
  go_wp2_with (go_at_call 45; ((with_reducible refine (Gs.check_calls ⟨b, 0, none⟩ zs N lg 0 lc HN.out _ (by omega) HI.out ll).mono ?_); rw [HV.out]; rintro E w1 ⟨rfl, hu1⟩; have z1 := hu1.size; have RB1 : Row w1 b #[.int .i64 cm.a, .int .i64 cm.b, .int .i64 cm.c, .int .i64 cm.d, .int .i64 cm.x, .int .i64 cm.y, .int .i64 sp, .int .i64 p0, .int .i64 p1, .int .i64 p2, .int .i64 p3, .int .i64 wd, .int .i64 cp, .int .i64 jn, .int .i64 mt, dv, .int .i64 ph, .int .i64 fn, .int .i64 fm.a, .int .i64 fm.b, .int .i64 fm.c, .int .i64 fm.d, .int .i64 fm.x, .int .i64 fm.y, cv, .bool dk, pp, .int .i64 most, .int .i64 segs, sv] := Row.up HR.out hu1; have lb1 := RB1.lt; have HU1 := Lib.hid hu1; have HI1 := Lib.hid (HI.out.up ll hu1); have ll1 : lg < w1.heap.size := Nat.lt_of_lt_of_le ll hu1.size))
  go_ret
  exact ⟨rfl, by (repeat' (first | (with_reducible first | exact Up.refl _ | assumption | refine Up.alloc ?_ _ | refine Up.drew ?_ | refine Up.drewN ?_ _ | refine Up.setCell ?_ ?_ _ | refine Up.call ?_ (by assumption)) | go_size))⟩

end Go.Proofs.YtoflafbhfoncmaaDoor.Gt
end

section
namespace Go.Proofs.YtoflafbhfoncmaaDoor.Gt
open Go.ChangeShapes Go.WideShapes Go.ChangeAt Go.RowKit
open Go.Proofs.YtoflafbhfoncmaaDoor.FixM (fits)
open Go.Proofs.YtoflafbhfoncmaaDoor.MatM (M6)
open Go.Proofs.YtoflafbhfoncmaaDoor.PathM (Seg St Z segCells)
open Go.Proofs.YtoflafbhfoncmaaDoor.Path (own own_mem own_of PathIs Segs)
open Go.Proofs.YtoflafbhfoncmaaDoor.Pt (Clip clipCells Src raw_up cloneInts infoI1 info_parts3)
set_option linter.unusedVariables false
set_option linter.unusedSimpArgs false

theorem ints_own2 : True := trivial
theorem neg1_calls (n : Int) (w : World) :
    Calls Tryd.prog 49 #[.int .i64 n] w fun e w' => e = .returned (.bool (decide (n < 0))) ∧ w = w' := by
  go_enter Tryd.func49, Tryd.ntmps49
  go_wp2
  go_ret
  exact ⟨rfl, rfl⟩

theorem index_neg (l : List Int) (b o c : Nat) (w : World) (hl : l.length ≤ 1000000000) (h : Gs.IntsAt w b o l) (hb : b < w.heap.size) :
    Calls Tryd.prog 62 #[.slice (some ⟨b, o, none⟩) l.length c, .func (.func 49) #[] #[]] w fun e w' => e = .returned (.int .i64 (Gs.idxI (fun n => decide (n < 0)) l)) ∧ Up w w' := by
  have HP := Lib.hid h
  clear h
  go_enter Tryd.func62, Tryd.ntmps62
  go_wp2
  go_loopw [8] (fun i wr => ∃ k : Nat, k ≤ l.length ∧ i = .int .i64 k ∧ (l.take k).any (fun n => decide (n < 0)) = false ∧ Up w wr) (fun i _ => l.length - (intOf i).toNat)
  case atStart => exact ⟨0, Nat.zero_le _, rfl, rfl, Up.refl _⟩
  case round =>
    obtain ⟨k, hk, rfl, hno, hup⟩ := hrel
    have HN := Lib.hid hno
    clear hno
    by_cases hlt : k < l.length
    · obtain ⟨x, hxy⟩ : ∃ x, l[k] = x := ⟨_, rfl⟩
      have hg : l[k]? = some x := by rw [List.getElem?_eq_getElem hlt, hxy]
      have hc0 := HP.out k x hg
      have hq0 := (hup.cells.1 b (o + k) hb).trans hc0
      have hz := hup.size
      clear hc0
      have HG := Lib.hid hg
      have HL := Lib.hid (And.intro hlt hxy)
      clear hg hxy
      obtain ⟨t, ht⟩ : ∃ t, (decide (x < 0)) = t := ⟨_, rfl⟩
      have HT := Lib.hid ht
      clear ht
      cases t
      · go_wp2_with (go_at_call 49; ((with_reducible refine (neg1_calls x _).mono ?_); rintro E w1 ⟨rfl, rfl⟩; rw [HT.out]))
        go_roundw
        case rel => exact ⟨k + 1, by omega, by go_num, by rw [List.take_succ_eq_append_getElem HL.out.1, List.any_append, HN.out, HL.out.2]; simpa using HT.out, by (repeat' (first | (with_reducible first | exact Up.refl _ | assumption | refine Up.alloc ?_ _ | refine Up.drew ?_ | refine Up.drewN ?_ _ | refine Up.setCell ?_ ?_ _ | refine Up.call ?_ (by assumption)) | go_size))⟩
        case measure => have := HL.out.1; simp [intOf]; omega
      · have HE : Hid (Gs.idxI (fun n => decide (n < 0)) l = k) := Lib.hid (by
          have ha : l.any (fun n => decide (n < 0)) = true := List.any_eq_true.2 ⟨x, List.mem_of_getElem? HG.out, HT.out⟩
          unfold Gs.idxI
          rw [if_pos ha]
          congr 1
          rw [List.findIdx_eq HL.out.1]
          refine ⟨by rw [HL.out.2]; exact HT.out, fun j hj => ?_⟩
          have h1 := HN.out
          rw [List.any_eq_false] at h1
          have h2 := h1 (l[j]'(by have := HL.out.1; omega)) (List.mem_take_iff_getElem.2 ⟨j, by have := HL.out.1; omega, rfl⟩)
          simpa using h2)
        go_wp2_with (go_at_call 49; ((with_reducible refine (neg1_calls x _).mono ?_); rintro E w1 ⟨rfl, rfl⟩; rw [HT.out]))
        go_ret
        exact ⟨by rw [HE.out]; rfl, by (repeat' (first | (with_reducible first | exact Up.refl _ | assumption | refine Up.alloc ?_ _ | refine Up.drew ?_ | refine Up.drewN ?_ _ | refine Up.setCell ?_ ?_ _ | refine Up.call ?_ (by assumption)) | go_size))⟩
    · have HE : Hid (Gs.idxI (fun n => decide (n < 0)) l = -1) := Lib.hid (by
        have := HN.out
        rw [List.take_of_length_le (by omega)] at this
        unfold Gs.idxI
        rw [this]
        rfl)
      go_wp2
      go_ret
      exact ⟨by rw [HE.out]; rfl, by (repeat' (first | (with_reducible first | exact Up.refl _ | assumption | refine Up.alloc ?_ _ | refine Up.drew ?_ | refine Up.drewN ?_ _ | refine Up.setCell ?_ ?_ _ | refine Up.call ?_ (by assumption)) | go_size))⟩

theorem contains_neg (l : List Int) (b o c : Nat) (w : World) (hl : l.length ≤ 1000000000) (h : Gs.IntsAt w b o l) (hb : b < w.heap.size) :
    Calls Tryd.prog 48 #[.slice (some ⟨b, o, none⟩) l.length c, .func (.func 49) #[] #[]] w fun e w' => e = .returned (.bool (l.any (fun n => decide (n < 0)))) ∧ Up w w' := by
  have HI := Lib.hid (Gs.idxI_neg (fun n => decide (n < 0)) l)
  have HP := Lib.hid h
  clear h
  go_enter Tryd.func48, Tryd.ntmps48
  go_wp2_with (go_at_call 62; ((with_reducible refine (index_neg l b o c _ hl HP.out hb).mono ?_); rintro E w1 ⟨rfl, hu1⟩))
  go_ret
  exact ⟨by rw [← HI.out]; rfl, by (repeat' (first | (with_reducible first | exact Up.refl _ | assumption | refine Up.alloc ?_ _ | refine Up.drew ?_ | refine Up.drewN ?_ _ | refine Up.setCell ?_ ?_ _ | refine Up.call ?_ (by assumption)) | go_size))⟩


theorem contains_neg2 (l : List Int) (N b o c : Nat) (w : World) (hN : l.length = N) (hl : N ≤ 1000000000) (h : Gs.IntsAt w b o l) (hb : b < w.heap.size) :
    Calls Tryd.prog 48 #[.slice (some ⟨b, o, none⟩) N c, .func (.func 49) #[] #[]] w fun e w' => e = .returned (.bool (l.any (fun n => decide (n < 0)))) ∧ Up w w' := by
  subst hN
  exact contains_neg l b o c w hl h hb
theorem chk_rng {l : List Int} (h : Gs.chk l = 0) : ∀ z ∈ l, -2147483648 ≤ z ∧ z ≤ 2147483647 := fun z hz => by
  unfold Gs.chk at h
  split at h
  · cases h
  · rename_i h2
    have h3 : fits z = true := by
      cases hf : fits z
      · exact absurd (List.any_eq_true.2 ⟨z, hz, by rw [hf]; rfl⟩) h2
      · rfl
    exact FixM.fits_iff.1 h3
def mx (x : Int) : Int := if x < 0 then 0 else x
theorem sum_mx (l : List Int) (h : ∀ z ∈ l, -2147483648 ≤ z ∧ z ≤ 2147483647) : 0 ≤ (l.map mx).sum ∧ (l.map mx).sum ≤ 2147483647 * l.length := by
  induction l with
  | nil => simp
  | cons z l ih =>
    have h1 := h z (by simp)
    have h2 := ih (fun y hy => h y (by simp [hy]))
    have h3 : 0 ≤ mx z ∧ mx z ≤ 2147483647 := by unfold mx; split <;> omega
    simp only [List.map_cons, List.sum_cons, List.length_cons]
    push_cast
    omega

set_option maxRecDepth 8000 in
set_option maxHeartbeats 2000000 in
theorem setDash_far (cm : M6) (sp p0 p1 p2 p3 wd cp jn mt : Int) (dv : Value) (ph fn : Int) (fm : M6) (cv : Value) (dk : Bool) (pp : Value) (most segs : Int) (sv : Value) (b base lg N lc : Nat) (zs : List Int) (q : Int) (w : World) (h : Row w b #[.int .i64 cm.a, .int .i64 cm.b, .int .i64 cm.c, .int .i64 cm.d, .int .i64 cm.x, .int .i64 cm.y, .int .i64 sp, .int .i64 p0, .int .i64 p1, .int .i64 p2, .int .i64 p3, .int .i64 wd, .int .i64 cp, .int .i64 jn, .int .i64 mt, dv, .int .i64 ph, .int .i64 fn, .int .i64 fm.a, .int .i64 fm.b, .int .i64 fm.c, .int .i64 fm.d, .int .i64 fm.x, .int .i64 fm.y, cv, .bool dk, pp, .int .i64 most, .int .i64 segs, sv]) (hS : w.ownsRow base 3 1 (.slice (some ⟨lg, 0, none⟩) N lc) N (zs.map (Value.int .i64))) (hN : zs.length = N) (hl : N ≤ 100) (hv : Gs.chk (q :: zs) = 11) :
    Calls Tryd.prog 29 #[.pointer (some ⟨b, 0, none⟩), .slice (some ⟨lg, 0, none⟩) N lc, .int .i64 q] w fun E w' => E = .returned (.int .i64 11) ∧ Up w w' := by
  obtain ⟨i0, hi, hz0, hz1, hz2⟩ := info_parts3 infoI1
  have HR := Lib.hid h
  have HS := Lib.hid hS
  have HN := Lib.hid hN
  have HV := Lib.hid hv
  have lb := h.lt
  have ll := (hS.lt lg rfl).2
  clear h hS hN hv
  go_enter Tryd.func29, Tryd.ntmps29
  go_wp2_with (first
    | (at_builtin; refine wpList_append_any rfl _ _ 27 rfl w.heap.size 3 i0 _ 1 8 Tryd.underlying27 hi hz0 hz1 hz2 rfl (by decide) (.slice (some ⟨w.heap.size, 0, none⟩) 1 1) 1 [.int .i64 q] rfl (World.ownsRow_lit w #[.int .i64 q] 1 (Nat.le_refl _) (by decide) rfl) (some ⟨lg, 0, none⟩) N lc (zs.map (Value.int .i64)) rfl (by have := HS.out.1; simpa using this) (fun e => by cases e) (fun ad2 e j u hj => by injection e with e; subst e; exact Pt.cell_up (Up.alloc (Up.refl w) _) (HS.out.cells (g := lg) rfl j u hj)) (one_ints _) (by unfold maxLen; omega) (by omega) (by simp) ?_; intro v4 w4 hown hgr hnil; have hu4 : Up w w4 := grown_up (Up.alloc (Up.refl w) _) hgr (fun k0 hk0 => by have h4 : w.heap.size = k0 := (by injection hk0); omega); obtain ⟨g, cap4, rfl, hbg, hg4⟩ := World.ownsRow.form hown (by omega); have HO4 : Hid (w4.ownsRow w.heap.size 3 1 (.slice (some ⟨g, 0, none⟩) (1 + N) cap4) (1 + N) ((q :: zs).map (Value.int .i64))) := Lib.hid hown; clear hgr hown hnil)
    | (go_at_call 45; ((with_reducible refine (Gs.check_calls ⟨b, 0, none⟩ (q :: zs) (1 + N) g 0 cap4 (by rw [List.length_cons, HN.out]; omega) _ (by omega) (ints_own HO4.out) hg4).mono ?_); rw [HV.out]; rintro E w5 ⟨rfl, hu5⟩; have z5 := hu5.size; have HU5 := Lib.hid (Up.call hu4 hu5); have HI5 := Lib.hid (ints_own (raw_up HS.out HU5.out)); have RB5 : Row w5 b #[.int .i64 cm.a, .int .i64 cm.b, .int .i64 cm.c, .int .i64 cm.d, .int .i64 cm.x, .int .i64 cm.y, .int .i64 sp, .int .i64 p0, .int .i64 p1, .int .i64 p2, .int .i64 p3, .int .i64 wd, .int .i64 cp, .int .i64 jn, .int .i64 mt, dv, .int .i64 ph, .int .i64 fn, .int .i64 fm.a, .int .i64 fm.b, .int .i64 fm.c, .int .i64 fm.d, .int .i64 fm.x, .int .i64 fm.y, cv, .bool dk, pp, .int .i64 most, .int .i64 segs, sv] := Row.up HR.out HU5.out; have ll5 : lg < w5.heap.size := Nat.lt_of_lt_of_le ll HU5.out.size)))
  go_ret
  exact ⟨rfl, by have := HU5.out; (repeat' (first | (with_reducible first | exact Up.refl _ | assumption | refine Up.alloc ?_ _ | refine Up.drew ?_ | refine Up.drewN ?_ _ | refine Up.setCell ?_ ?_ _ | refine Up.call ?_ (by assumption)) | go_size))⟩

set_option maxRecDepth 8000 in
set_option maxHeartbeats 2000000 in
theorem setDash_long (cm : M6) (sp p0 p1 p2 p3 wd cp jn mt : Int) (dv : Value) (ph fn : Int) (fm : M6) (cv : Value) (dk : Bool) (pp : Value) (most segs : Int) (sv : Value) (b base lg N lc : Nat) (zs : List Int) (q : Int) (w : World) (h : Row w b #[.int .i64 cm.a, .int .i64 cm.b, .int .i64 cm.c, .int .i64 cm.d, .int .i64 cm.x, .int .i64 cm.y, .int .i64 sp, .int .i64 p0, .int .i64 p1, .int .i64 p2, .int .i64 p3, .int .i64 wd, .int .i64 cp, .int .i64 jn, .int .i64 mt, dv, .int .i64 ph, .int .i64 fn, .int .i64 fm.a, .int .i64 fm.b, .int .i64 fm.c, .int .i64 fm.d, .int .i64 fm.x, .int .i64 fm.y, cv, .bool dk, pp, .int .i64 most, .int .i64 segs, sv]) (hS : w.ownsRow base 3 1 (.slice (some ⟨lg, 0, none⟩) N lc) N (zs.map (Value.int .i64))) (hN : zs.length = N) (hl : N ≤ 100) (hv : Gs.chk (q :: zs) = 0) (hlong : 11 < N) :
    Calls Tryd.prog 29 #[.pointer (some ⟨b, 0, none⟩), .slice (some ⟨lg, 0, none⟩) N lc, .int .i64 q] w fun E w' => E = .returned (.int .i64 9) ∧ Up w w' := by
  obtain ⟨i0, hi, hz0, hz1, hz2⟩ := info_parts3 infoI1
  have HR := Lib.hid h
  have HS := Lib.hid hS
  have HN := Lib.hid hN
  have HV := Lib.hid hv
  have lb := h.lt
  have ll := (hS.lt lg rfl).2
  clear h hS hN hv
  have hNd : decide (11 < N) = true := decide_eq_true hlong
  have HZ : Hid (∀ z ∈ zs, -2147483648 ≤ z ∧ z ≤ 2147483647) := Lib.hid (fun z hz => chk_rng HV.out z (List.mem_cons_of_mem _ hz))
  go_enter Tryd.func29, Tryd.ntmps29
  go_wp2_with (first
    | (at_builtin; refine wpList_append_any rfl _ _ 27 rfl w.heap.size 3 i0 _ 1 8 Tryd.underlying27 hi hz0 hz1 hz2 rfl (by decide) (.slice (some ⟨w.heap.size, 0, none⟩) 1 1) 1 [.int .i64 q] rfl (World.ownsRow_lit w #[.int .i64 q] 1 (Nat.le_refl _) (by decide) rfl) (some ⟨lg, 0, none⟩) N lc (zs.map (Value.int .i64)) rfl (by have := HS.out.1; simpa using this) (fun e => by cases e) (fun ad2 e j u hj => by injection e with e; subst e; exact Pt.cell_up (Up.alloc (Up.refl w) _) (HS.out.cells (g := lg) rfl j u hj)) (one_ints _) (by unfold maxLen; omega) (by omega) (by simp) ?_; intro v4 w4 hown hgr hnil; have hu4 : Up w w4 := grown_up (Up.alloc (Up.refl w) _) hgr (fun k0 hk0 => by have h4 : w.heap.size = k0 := (by injection hk0); omega); obtain ⟨g, cap4, rfl, hbg, hg4⟩ := World.ownsRow.form hown (by omega); have HO4 : Hid (w4.ownsRow w.heap.size 3 1 (.slice (some ⟨g, 0, none⟩) (1 + N) cap4) (1 + N) ((q :: zs).map (Value.int .i64))) := Lib.hid hown; clear hgr hown hnil)
    | (go_at_call 45; ((with_reducible refine (Gs.check_calls ⟨b, 0, none⟩ (q :: zs) (1 + N) g 0 cap4 (by rw [List.length_cons, HN.out]; omega) _ (by omega) (ints_own HO4.out) hg4).mono ?_); rw [HV.out]; rintro E w5 ⟨rfl, hu5⟩; have z5 := hu5.size; have HU5 := Lib.hid (Up.call hu4 hu5); have HI5 := Lib.hid (ints_own (raw_up HS.out HU5.out)); have RB5 : Row w5 b #[.int .i64 cm.a, .int .i64 cm.b, .int .i64 cm.c, .int .i64 cm.d, .int .i64 cm.x, .int .i64 cm.y, .int .i64 sp, .int .i64 p0, .int .i64 p1, .int .i64 p2, .int .i64 p3, .int .i64 wd, .int .i64 cp, .int .i64 jn, .int .i64 mt, dv, .int .i64 ph, .int .i64 fn, .int .i64 fm.a, .int .i64 fm.b, .int .i64 fm.c, .int .i64 fm.d, .int .i64 fm.x, .int .i64 fm.y, cv, .bool dk, pp, .int .i64 most, .int .i64 segs, sv] := Row.up HR.out HU5.out; have ll5 : lg < w5.heap.size := Nat.lt_of_lt_of_le ll HU5.out.size)))
  go_loop [8, 22] (fun s8 s22 => ∃ k : Nat, k ≤ N ∧ s8 = .int .i64 ((zs.map mx).take k).sum ∧ s22 = .int .i64 k) (fun _ s22 => N - (intOf s22).toNat)
  case atStart => exact ⟨0, Nat.zero_le _, rfl, rfl⟩
  case round =>
    obtain ⟨k, hk, rfl, rfl⟩ := hrel
    have hpb := sum_mx (zs.take k) (fun z hz => HZ.out z (List.mem_of_mem_take hz))
    rw [List.map_take] at hpb
    have hpl : (zs.take k).length ≤ 100 := by simp; omega
    by_cases hlt : k < N
    · have hkz : k < zs.length := by rw [HN.out]; exact hlt
      obtain ⟨x, hx⟩ : ∃ x, zs[k] = x := ⟨_, rfl⟩
      have hxz := HZ.out x (by rw [← hx]; exact List.getElem_mem hkz)
      obtain ⟨y, hy⟩ : ∃ y, (if x < 0 then 0 else x) = y := ⟨_, rfl⟩
      have hyz : 0 ≤ y ∧ y ≤ 2147483647 := by rw [← hy]; split <;> omega
      have qc : w5.cell? ⟨lg, k, none⟩ = some (.int .i64 x) := by
        have := HI5.out k x (by rw [List.getElem?_eq_getElem hkz, hx])
        rwa [Nat.zero_add] at this
      have HSU : Hid (((zs.map mx).take (k + 1)).sum = ((zs.map mx).take k).sum + y) := Lib.hid (by rw [← List.map_take, List.take_succ_eq_append_getElem hkz, List.map_append, List.sum_append, hx, List.map_take]; simp [mx, hy])
      clear hx hxz
      go_wp2
      go_round
      case rel => exact ⟨k + 1, by omega, by rw [HSU.out], by go_num⟩
      case measure => simp [intOf]; omega
    · obtain rfl : k = N := by omega
      have HT : Hid (((zs.map mx).take k).sum = (zs.map mx).sum) := Lib.hid (by rw [List.take_of_length_le (by rw [List.length_map, HN.out]; exact Nat.le_refl _)])
      rw [HT.out] at hpb ⊢
      have rb15 := RB5.cell 15 rfl
      have rb16 := RB5.cell 16 rfl
      have rbf15 := RB5.free 15
      have rbf16 := RB5.free 16
      have lb5 := RB5.lt
      go_wp2
      go_ret
      exact ⟨rfl, HU5.out⟩

set_option maxRecDepth 8000 in
set_option maxHeartbeats 2000000 in
theorem setDash_ok (cm : M6) (sp p0 p1 p2 p3 wd cp jn mt : Int) (dv : Value) (ph fn : Int) (fm : M6) (cv : Value) (dk : Bool) (pp : Value) (most segs : Int) (sv : Value) (b base lg N lc : Nat) (zs : List Int) (q : Int) (w : World) (h : Row w b #[.int .i64 cm.a, .int .i64 cm.b, .int .i64 cm.c, .int .i64 cm.d, .int .i64 cm.x, .int .i64 cm.y, .int .i64 sp, .int .i64 p0, .int .i64 p1, .int .i64 p2, .int .i64 p3, .int .i64 wd, .int .i64 cp, .int .i64 jn, .int .i64 mt, dv, .int .i64 ph, .int .i64 fn, .int .i64 fm.a, .int .i64 fm.b, .int .i64 fm.c, .int .i64 fm.d, .int .i64 fm.x, .int .i64 fm.y, cv, .bool dk, pp, .int .i64 most, .int .i64 segs, sv]) (hS : w.ownsRow base 3 1 (.slice (some ⟨lg, 0, none⟩) N lc) N (zs.map (Value.int .i64))) (hN : zs.length = N) (hl : N ≤ 100) (hv : Gs.chk (q :: zs) = 0) (hs : N ≤ 11) (hq : ¬ q < 0) (hn : zs.any (fun n => decide (n < 0)) = false) (hp : ¬ (0 < N ∧ (zs.map mx).sum = 0)) :
    Calls Tryd.prog 29 #[.pointer (some ⟨b, 0, none⟩), .slice (some ⟨lg, 0, none⟩) N lc, .int .i64 q] w fun E w' => ∃ a8 c8, E = .returned (.int .i64 0) ∧ Row w' b #[.int .i64 cm.a, .int .i64 cm.b, .int .i64 cm.c, .int .i64 cm.d, .int .i64 cm.x, .int .i64 cm.y, .int .i64 sp, .int .i64 p0, .int .i64 p1, .int .i64 p2, .int .i64 p3, .int .i64 wd, .int .i64 cp, .int .i64 jn, .int .i64 mt, .slice a8 N c8, .int .i64 q, .int .i64 fn, .int .i64 fm.a, .int .i64 fm.b, .int .i64 fm.c, .int .i64 fm.d, .int .i64 fm.x, .int .i64 fm.y, cv, .bool dk, pp, .int .i64 most, .int .i64 segs, sv] ∧ w'.ownsRow 0 3 1 (.slice a8 N c8) N (zs.map (Value.int .i64)) ∧ (∀ g ∈ own (.slice a8 N c8), w.heap.size ≤ g ∧ g < w'.heap.size) ∧ Chg [b] w w' := by
  obtain ⟨i0, hi, hz0, hz1, hz2⟩ := info_parts3 infoI1
  have HR := Lib.hid h
  have HS := Lib.hid hS
  have HN := Lib.hid hN
  have HV := Lib.hid hv
  have lb := h.lt
  have ll := (hS.lt lg rfl).2
  clear h hS hN hv
  have hNd : decide (11 < N) = false := decide_eq_false (by omega)
  have hqd : decide (q < 0) = false := decide_eq_false hq
  have HA := Lib.hid hn
  have HP := Lib.hid hp
  clear hn hp
  have HZ : Hid (∀ z ∈ zs, -2147483648 ≤ z ∧ z ≤ 2147483647) := Lib.hid (fun z hz => chk_rng HV.out z (List.mem_cons_of_mem _ hz))
  go_enter Tryd.func29, Tryd.ntmps29
  go_wp2_with (first
    | (at_builtin; refine wpList_append_any rfl _ _ 27 rfl w.heap.size 3 i0 _ 1 8 Tryd.underlying27 hi hz0 hz1 hz2 rfl (by decide) (.slice (some ⟨w.heap.size, 0, none⟩) 1 1) 1 [.int .i64 q] rfl (World.ownsRow_lit w #[.int .i64 q] 1 (Nat.le_refl _) (by decide) rfl) (some ⟨lg, 0, none⟩) N lc (zs.map (Value.int .i64)) rfl (by have := HS.out.1; simpa using this) (fun e => by cases e) (fun ad2 e j u hj => by injection e with e; subst e; exact Pt.cell_up (Up.alloc (Up.refl w) _) (HS.out.cells (g := lg) rfl j u hj)) (one_ints _) (by unfold maxLen; omega) (by omega) (by simp) ?_; intro v4 w4 hown hgr hnil; have hu4 : Up w w4 := grown_up (Up.alloc (Up.refl w) _) hgr (fun k0 hk0 => by have h4 : w.heap.size = k0 := (by injection hk0); omega); obtain ⟨g, cap4, rfl, hbg, hg4⟩ := World.ownsRow.form hown (by omega); have HO4 : Hid (w4.ownsRow w.heap.size 3 1 (.slice (some ⟨g, 0, none⟩) (1 + N) cap4) (1 + N) ((q :: zs).map (Value.int .i64))) := Lib.hid hown; clear hgr hown hnil)
    | (go_at_call 45; ((with_reducible refine (Gs.check_calls ⟨b, 0, none⟩ (q :: zs) (1 + N) g 0 cap4 (by rw [List.length_cons, HN.out]; omega) _ (by omega) (ints_own HO4.out) hg4).mono ?_); rw [HV.out]; rintro E w5 ⟨rfl, hu5⟩; have z5 := hu5.size; have HU5 := Lib.hid (Up.call hu4 hu5); have HI5 := Lib.hid (ints_own (raw_up HS.out HU5.out)); have RB5 : Row w5 b #[.int .i64 cm.a, .int .i64 cm.b, .int .i64 cm.c, .int .i64 cm.d, .int .i64 cm.x, .int .i64 cm.y, .int .i64 sp, .int .i64 p0, .int .i64 p1, .int .i64 p2, .int .i64 p3, .int .i64 wd, .int .i64 cp, .int .i64 jn, .int .i64 mt, dv, .int .i64 ph, .int .i64 fn, .int .i64 fm.a, .int .i64 fm.b, .int .i64 fm.c, .int .i64 fm.d, .int .i64 fm.x, .int .i64 fm.y, cv, .bool dk, pp, .int .i64 most, .int .i64 segs, sv] := Row.up HR.out HU5.out; have ll5 : lg < w5.heap.size := Nat.lt_of_lt_of_le ll HU5.out.size)))
  go_loop [8, 22] (fun s8 s22 => ∃ k : Nat, k ≤ N ∧ s8 = .int .i64 ((zs.map mx).take k).sum ∧ s22 = .int .i64 k) (fun _ s22 => N - (intOf s22).toNat)
  case atStart => exact ⟨0, Nat.zero_le _, rfl, rfl⟩
  case round =>
    obtain ⟨k, hk, rfl, rfl⟩ := hrel
    have hpb := sum_mx (zs.take k) (fun z hz => HZ.out z (List.mem_of_mem_take hz))
    rw [List.map_take] at hpb
    have hpl : (zs.take k).length ≤ 100 := by simp; omega
    by_cases hlt : k < N
    · have hkz : k < zs.length := by rw [HN.out]; exact hlt
      obtain ⟨x, hx⟩ : ∃ x, zs[k] = x := ⟨_, rfl⟩
      have hxz := HZ.out x (by rw [← hx]; exact List.getElem_mem hkz)
      obtain ⟨y, hy⟩ : ∃ y, (if x < 0 then 0 else x) = y := ⟨_, rfl⟩
      have hyz : 0 ≤ y ∧ y ≤ 2147483647 := by rw [← hy]; split <;> omega
      have qc : w5.cell? ⟨lg, k, none⟩ = some (.int .i64 x) := by
        have := HI5.out k x (by rw [List.getElem?_eq_getElem hkz, hx])
        rwa [Nat.zero_add] at this
      have HSU : Hid (((zs.map mx).take (k + 1)).sum = ((zs.map mx).take k).sum + y) := Lib.hid (by rw [← List.map_take, List.take_succ_eq_append_getElem hkz, List.map_append, List.sum_append, hx, List.map_take]; simp [mx, hy])
      clear hx hxz
      go_wp2
      go_round
      case rel => exact ⟨k + 1, by omega, by rw [HSU.out], by go_num⟩
      case measure => simp [intOf]; omega
    · obtain rfl : k = N := by omega
      have HT : Hid (((zs.map mx).take k).sum = (zs.map mx).sum) := Lib.hid (by rw [List.take_of_length_le (by rw [List.length_map, HN.out]; exact Nat.le_refl _)])
      rw [HT.out] at hpb ⊢
      have rb15 := RB5.cell 15 rfl
      have rb16 := RB5.cell 16 rfl
      have rbf15 := RB5.free 15
      have rbf16 := RB5.free 16
      have lb5 := RB5.lt
      have fin : ∀ (w7 w9 : World) (a8 : Option Addr) (c8 : Nat), w7.ownsRow 0 3 1 (.slice a8 k c8) k (zs.map (Value.int .i64)) → (∀ g ∈ own (.slice a8 k c8), w.heap.size ≤ g ∧ g < w7.heap.size) → Chg [b] w7 w9 → w9.ownsRow 0 3 1 (.slice a8 k c8) k (zs.map (Value.int .i64)) ∧ (∀ g ∈ own (.slice a8 k c8), w.heap.size ≤ g ∧ g < w9.heap.size) := fun w7 w9 a8 c8 h1 h2 h3 => ⟨owned_chg h1 h3 (fun g hg => by have := h2 g (own_mem hg); simp; omega), fun g hg => ⟨(h2 g hg).1, Nat.lt_of_lt_of_le (h2 g hg).2 h3.size⟩⟩
      have FIN := Lib.hid fin
      clear fin
      by_cases h0 : 0 < k
      · have h0d : decide (0 < k) = true := decide_eq_true h0
        have h0s : ((zs.map mx).sum == 0) = false := by simp; exact fun e => HP.out ⟨h0, e⟩
        go_wp2_with (first
          | (go_at_call 48; ((with_reducible refine (contains_neg2 zs k lg 0 lc _ HN.out (by omega) HI5.out ll5).mono ?_); rw [HA.out]; rintro E w6 ⟨rfl, hu6⟩; have RB6 := RB5.up hu6; have HU6 := Lib.hid (Up.call HU5.out hu6); have lb6 := RB6.lt; have rc15 := RB6.cell 15 rfl; have rc16 := RB6.cell 16 rfl; have rcf15 := RB6.free 15; have rcf16 := RB6.free 16))
          | (go_at_call 50; ((with_reducible refine (cloneInts _ _ _ _ (src_row (raw_up HS.out HU6.out)) (one_ints _) (by omega)).mono ?_); rintro E w7 ⟨v7, rfl, ho7, hf7, hu7⟩; obtain ⟨a8, c8, rfl⟩ := owned_val ho7; have HO7 := Lib.hid ho7; have HF7 := Lib.hid hf7; have RB7 := RB6.up hu7; have lb7 := RB7.lt; have rd15 := RB7.cell 15 rfl; have rd16 := RB7.cell 16 rfl; have rdf15 := RB7.free 15; have rdf16 := RB7.free 16; have HU7 := Lib.hid (Up.call HU6.out hu7); clear ho7 hf7)))
        go_ret
        have hz6 := HU6.out.size
        have hz7 := HU7.out.size
        have hff : ∀ g ∈ own (.slice a8 k c8), w.heap.size ≤ g ∧ g < w7.heap.size := fun g hg => ⟨by have := (HF7.out g hg).1; omega, (HF7.out g hg).2⟩
        refine ⟨a8, c8, rfl, (by apply cast; (case h => (repeat (first | (with_reducible first | assumption | (apply Row.at; (simp; done)) | apply Row.alloc | apply Row.drew | apply Row.drewN | apply Row.set) | ((with_reducible apply Row.other); (case hp => first | (simp; done) | (simp; omega) | omega))))); (case e => rfl)), ?_, ?_, ?_⟩
        · exact (FIN.out w7 _ a8 c8 HO7.out hff (by (repeat' (first | (with_reducible first | exact Chg.refl _ _ | assumption | refine Chg.alloc ?_ _ | refine Chg.drew ?_ | refine Chg.drewN ?_ _ | refine Chg.setCell ?_ ?_ _ | refine Chg.upc ?_ (by assumption) | refine Chg.call ?_ (by assumption) ?_) | (refine Or.inl ?_; (simp; done)) | (simp; done) | (simp; omega) | omega)))).1
        · exact (FIN.out w7 _ a8 c8 HO7.out hff (by (repeat' (first | (with_reducible first | exact Chg.refl _ _ | assumption | refine Chg.alloc ?_ _ | refine Chg.drew ?_ | refine Chg.drewN ?_ _ | refine Chg.setCell ?_ ?_ _ | refine Chg.upc ?_ (by assumption) | refine Chg.call ?_ (by assumption) ?_) | (refine Or.inl ?_; (simp; done)) | (simp; done) | (simp; omega) | omega)))).2
        · have := (Chg.of_up (S := [b]) HU7.out)
          (repeat' (first | (with_reducible first | exact Chg.refl _ _ | assumption | refine Chg.alloc ?_ _ | refine Chg.drew ?_ | refine Chg.drewN ?_ _ | refine Chg.setCell ?_ ?_ _ | refine Chg.upc ?_ (by assumption) | refine Chg.call ?_ (by assumption) ?_) | (refine Or.inl ?_; (simp; done)) | (simp; done) | (simp; omega) | omega))
      · have h0d : decide (0 < k) = false := decide_eq_false h0
        go_wp2_with (first
          | (go_at_call 48; ((with_reducible refine (contains_neg2 zs k lg 0 lc _ HN.out (by omega) HI5.out ll5).mono ?_); rw [HA.out]; rintro E w6 ⟨rfl, hu6⟩; have RB6 := RB5.up hu6; have HU6 := Lib.hid (Up.call HU5.out hu6); have lb6 := RB6.lt; have rc15 := RB6.cell 15 rfl; have rc16 := RB6.cell 16 rfl; have rcf15 := RB6.free 15; have rcf16 := RB6.free 16))
          | (go_at_call 50; ((with_reducible refine (cloneInts _ _ _ _ (src_row (raw_up HS.out HU6.out)) (one_ints _) (by omega)).mono ?_); rintro E w7 ⟨v7, rfl, ho7, hf7, hu7⟩; obtain ⟨a8, c8, rfl⟩ := owned_val ho7; have HO7 := Lib.hid ho7; have HF7 := Lib.hid hf7; have RB7 := RB6.up hu7; have lb7 := RB7.lt; have rd15 := RB7.cell 15 rfl; have rd16 := RB7.cell 16 rfl; have rdf15 := RB7.free 15; have rdf16 := RB7.free 16; have HU7 := Lib.hid (Up.call HU6.out hu7); clear ho7 hf7)))
        go_ret
        have hz6 := HU6.out.size
        have hz7 := HU7.out.size
        have hff : ∀ g ∈ own (.slice a8 k c8), w.heap.size ≤ g ∧ g < w7.heap.size := fun g hg => ⟨by have := (HF7.out g hg).1; omega, (HF7.out g hg).2⟩
        refine ⟨a8, c8, rfl, (by apply cast; (case h => (repeat (first | (with_reducible first | assumption | (apply Row.at; (simp; done)) | apply Row.alloc | apply Row.drew | apply Row.drewN | apply Row.set) | ((with_reducible apply Row.other); (case hp => first | (simp; done) | (simp; omega) | omega))))); (case e => rfl)), ?_, ?_, ?_⟩
        · exact (FIN.out w7 _ a8 c8 HO7.out hff (by (repeat' (first | (with_reducible first | exact Chg.refl _ _ | assumption | refine Chg.alloc ?_ _ | refine Chg.drew ?_ | refine Chg.drewN ?_ _ | refine Chg.setCell ?_ ?_ _ | refine Chg.upc ?_ (by assumption) | refine Chg.call ?_ (by assumption) ?_) | (refine Or.inl ?_; (simp; done)) | (simp; done) | (simp; omega) | omega)))).1
        · exact (FIN.out w7 _ a8 c8 HO7.out hff (by (repeat' (first | (with_reducible first | exact Chg.refl _ _ | assumption | refine Chg.alloc ?_ _ | refine Chg.drew ?_ | refine Chg.drewN ?_ _ | refine Chg.setCell ?_ ?_ _ | refine Chg.upc ?_ (by assumption) | refine Chg.call ?_ (by assumption) ?_) | (refine Or.inl ?_; (simp; done)) | (simp; done) | (simp; omega) | omega)))).2
        · have := (Chg.of_up (S := [b]) HU7.out)
          (repeat' (first | (with_reducible first | exact Chg.refl _ _ | assumption | refine Chg.alloc ?_ _ | refine Chg.drew ?_ | refine Chg.drewN ?_ _ | refine Chg.setCell ?_ ?_ _ | refine Chg.upc ?_ (by assumption) | refine Chg.call ?_ (by assumption) ?_) | (refine Or.inl ?_; (simp; done)) | (simp; done) | (simp; omega) | omega))

set_option maxRecDepth 8000 in
set_option maxHeartbeats 2000000 in
theorem setDash_bad (cm : M6) (sp p0 p1 p2 p3 wd cp jn mt : Int) (dv : Value) (ph fn : Int) (fm : M6) (cv : Value) (dk : Bool) (pp : Value) (most segs : Int) (sv : Value) (b base lg N lc : Nat) (zs : List Int) (q : Int) (w : World) (h : Row w b #[.int .i64 cm.a, .int .i64 cm.b, .int .i64 cm.c, .int .i64 cm.d, .int .i64 cm.x, .int .i64 cm.y, .int .i64 sp, .int .i64 p0, .int .i64 p1, .int .i64 p2, .int .i64 p3, .int .i64 wd, .int .i64 cp, .int .i64 jn, .int .i64 mt, dv, .int .i64 ph, .int .i64 fn, .int .i64 fm.a, .int .i64 fm.b, .int .i64 fm.c, .int .i64 fm.d, .int .i64 fm.x, .int .i64 fm.y, cv, .bool dk, pp, .int .i64 most, .int .i64 segs, sv]) (hS : w.ownsRow base 3 1 (.slice (some ⟨lg, 0, none⟩) N lc) N (zs.map (Value.int .i64))) (hN : zs.length = N) (hl : N ≤ 100) (hv : Gs.chk (q :: zs) = 0) (hs : N ≤ 11) (hb : q < 0 ∨ zs.any (fun n => decide (n < 0)) = true ∨ (0 < N ∧ (zs.map mx).sum = 0)) :
    Calls Tryd.prog 29 #[.pointer (some ⟨b, 0, none⟩), .slice (some ⟨lg, 0, none⟩) N lc, .int .i64 q] w fun E w' => E = .returned (.int .i64 11) ∧ Up w w' := by
  obtain ⟨i0, hi, hz0, hz1, hz2⟩ := info_parts3 infoI1
  have HR := Lib.hid h
  have HS := Lib.hid hS
  have HN := Lib.hid hN
  have HV := Lib.hid hv
  have lb := h.lt
  have ll := (hS.lt lg rfl).2
  clear h hS hN hv
  have hNd : decide (11 < N) = false := decide_eq_false (by omega)
  have HB := Lib.hid hb
  clear hb
  have HZ : Hid (∀ z ∈ zs, -2147483648 ≤ z ∧ z ≤ 2147483647) := Lib.hid (fun z hz => chk_rng HV.out z (List.mem_cons_of_mem _ hz))
  go_enter Tryd.func29, Tryd.ntmps29
  go_wp2_with (first
    | (at_builtin; refine wpList_append_any rfl _ _ 27 rfl w.heap.size 3 i0 _ 1 8 Tryd.underlying27 hi hz0 hz1 hz2 rfl (by decide) (.slice (some ⟨w.heap.size, 0, none⟩) 1 1) 1 [.int .i64 q] rfl (World.ownsRow_lit w #[.int .i64 q] 1 (Nat.le_refl _) (by decide) rfl) (some ⟨lg, 0, none⟩) N lc (zs.map (Value.int .i64)) rfl (by have := HS.out.1; simpa using this) (fun e => by cases e) (fun ad2 e j u hj => by injection e with e; subst e; exact Pt.cell_up (Up.alloc (Up.refl w) _) (HS.out.cells (g := lg) rfl j u hj)) (one_ints _) (by unfold maxLen; omega) (by omega) (by simp) ?_; intro v4 w4 hown hgr hnil; have hu4 : Up w w4 := grown_up (Up.alloc (Up.refl w) _) hgr (fun k0 hk0 => by have h4 : w.heap.size = k0 := (by injection hk0); omega); obtain ⟨g, cap4, rfl, hbg, hg4⟩ := World.ownsRow.form hown (by omega); have HO4 : Hid (w4.ownsRow w.heap.size 3 1 (.slice (some ⟨g, 0, none⟩) (1 + N) cap4) (1 + N) ((q :: zs).map (Value.int .i64))) := Lib.hid hown; clear hgr hown hnil)
    | (go_at_call 45; ((with_reducible refine (Gs.check_calls ⟨b, 0, none⟩ (q :: zs) (1 + N) g 0 cap4 (by rw [List.length_cons, HN.out]; omega) _ (by omega) (ints_own HO4.out) hg4).mono ?_); rw [HV.out]; rintro E w5 ⟨rfl, hu5⟩; have z5 := hu5.size; have HU5 := Lib.hid (Up.call hu4 hu5); have HI5 := Lib.hid (ints_own (raw_up HS.out HU5.out)); have RB5 : Row w5 b #[.int .i64 cm.a, .int .i64 cm.b, .int .i64 cm.c, .int .i64 cm.d, .int .i64 cm.x, .int .i64 cm.y, .int .i64 sp, .int .i64 p0, .int .i64 p1, .int .i64 p2, .int .i64 p3, .int .i64 wd, .int .i64 cp, .int .i64 jn, .int .i64 mt, dv, .int .i64 ph, .int .i64 fn, .int .i64 fm.a, .int .i64 fm.b, .int .i64 fm.c, .int .i64 fm.d, .int .i64 fm.x, .int .i64 fm.y, cv, .bool dk, pp, .int .i64 most, .int .i64 segs, sv] := Row.up HR.out HU5.out; have ll5 : lg < w5.heap.size := Nat.lt_of_lt_of_le ll HU5.out.size)))
  go_loop [8, 22] (fun s8 s22 => ∃ k : Nat, k ≤ N ∧ s8 = .int .i64 ((zs.map mx).take k).sum ∧ s22 = .int .i64 k) (fun _ s22 => N - (intOf s22).toNat)
  case atStart => exact ⟨0, Nat.zero_le _, rfl, rfl⟩
  case round =>
    obtain ⟨k, hk, rfl, rfl⟩ := hrel
    have hpb := sum_mx (zs.take k) (fun z hz => HZ.out z (List.mem_of_mem_take hz))
    rw [List.map_take] at hpb
    have hpl : (zs.take k).length ≤ 100 := by simp; omega
    by_cases hlt : k < N
    · have hkz : k < zs.length := by rw [HN.out]; exact hlt
      obtain ⟨x, hx⟩ : ∃ x, zs[k] = x := ⟨_, rfl⟩
      have hxz := HZ.out x (by rw [← hx]; exact List.getElem_mem hkz)
      obtain ⟨y, hy⟩ : ∃ y, (if x < 0 then 0 else x) = y := ⟨_, rfl⟩
      have hyz : 0 ≤ y ∧ y ≤ 2147483647 := by rw [← hy]; split <;> omega
      have qc : w5.cell? ⟨lg, k, none⟩ = some (.int .i64 x) := by
        have := HI5.out k x (by rw [List.getElem?_eq_getElem hkz, hx])
        rwa [Nat.zero_add] at this
      have HSU : Hid (((zs.map mx).take (k + 1)).sum = ((zs.map mx).take k).sum + y) := Lib.hid (by rw [← List.map_take, List.take_succ_eq_append_getElem hkz, List.map_append, List.sum_append, hx, List.map_take]; simp [mx, hy])
      clear hx hxz
      go_wp2
      go_round
      case rel => exact ⟨k + 1, by omega, by rw [HSU.out], by go_num⟩
      case measure => simp [intOf]; omega
    · obtain rfl : k = N := by omega
      have HT : Hid (((zs.map mx).take k).sum = (zs.map mx).sum) := Lib.hid (by rw [List.take_of_length_le (by rw [List.length_map, HN.out]; exact Nat.le_refl _)])
      rw [HT.out] at hpb ⊢
      have rb15 := RB5.cell 15 rfl
      have rb16 := RB5.cell 16 rfl
      have rbf15 := RB5.free 15
      have rbf16 := RB5.free 16
      have lb5 := RB5.lt
      by_cases hq : q < 0
      · have hqd : decide (q < 0) = true := decide_eq_true hq
        go_wp2
        go_ret
        exact ⟨rfl, HU5.out⟩
      · have hqd : decide (q < 0) = false := decide_eq_false hq
        obtain ⟨an, han⟩ : ∃ t, zs.any (fun n => decide (n < 0)) = t := ⟨_, rfl⟩
        have HA := Lib.hid han
        clear han
        cases an
        · have h0 : 0 < k ∧ (zs.map mx).sum = 0 := by
            rcases HB.out with h | h | h
            · exact absurd h hq
            · rw [HA.out] at h; cases h
            · exact h
          have h0d : decide (0 < k) = true := decide_eq_true h0.1
          have h0s : ((zs.map mx).sum == 0) = true := by simpa using h0.2
          clear h0
          go_wp2_with (go_at_call 48; ((with_reducible refine (contains_neg2 zs k lg 0 lc _ HN.out (by omega) HI5.out ll5).mono ?_); rw [HA.out]; rintro E w6 ⟨rfl, hu6⟩; have RB6 := RB5.up hu6; have HU6 := Lib.hid (Up.call HU5.out hu6); have lb6 := RB6.lt; have rc15 := RB6.cell 15 rfl; have rc16 := RB6.cell 16 rfl; have rcf15 := RB6.free 15; have rcf16 := RB6.free 16))
          go_ret
          exact ⟨rfl, HU6.out⟩
        · go_wp2_with (go_at_call 48; ((with_reducible refine (contains_neg2 zs k lg 0 lc _ HN.out (by omega) HI5.out ll5).mono ?_); rw [HA.out]; rintro E w6 ⟨rfl, hu6⟩; have RB6 := RB5.up hu6; have HU6 := Lib.hid (Up.call HU5.out hu6); have lb6 := RB6.lt; have rc15 := RB6.cell 15 rfl; have rc16 := RB6.cell 16 rfl; have rcf15 := RB6.free 15; have rcf16 := RB6.free 16))
          go_ret
          exact ⟨rfl, HU6.out⟩

end Go.Proofs.YtoflafbhfoncmaaDoor.Gt
end

section
namespace Go.Proofs.YtoflafbhfoncmaaDoor.Gt
open Go.ChangeShapes Go.WideShapes Go.ChangeAt Go.RowKit
open Go.Proofs.YtoflafbhfoncmaaDoor.FixM (fits)
open Go.Proofs.YtoflafbhfoncmaaDoor.MatM (M6)
open Go.Proofs.YtoflafbhfoncmaaDoor.PathM (Seg St Z segCells)
open Go.Proofs.YtoflafbhfoncmaaDoor.Path (own own_mem own_of PathIs Segs)
open Go.Proofs.YtoflafbhfoncmaaDoor.Pt (Clip clipCells Src)
set_option linter.unusedVariables false
set_option linter.unusedSimpArgs false

theorem owned_take {w : World} {e : TypeId} {k n j g cap : Nat} {xs : List Value} (h : w.ownsRow 0 e k (.slice (some ⟨g, 0, none⟩) n cap) n xs) (hj : j ≤ n) : w.ownsRow 0 e k (.slice (some ⟨g, 0, none⟩) j cap) j (xs.take (j * k)) := by
  have hl := h.1
  rcases h.2 with ⟨h1, _⟩ | ⟨g', cap', cur, hv, hb, hg, hn, hm, hs, ht⟩
  · cases h1
  · simp only [Value.slice.injEq, Option.some.injEq, Addr.mk.injEq, and_true, true_and] at hv
    obtain ⟨rfl, rfl⟩ := hv
    have h1 : j * k ≤ n * k := Nat.mul_le_mul_right k hj
    refine ⟨by rw [List.length_take, hl]; omega, Or.inr ⟨g, cap, cur, rfl, hb, hg, by omega, hm, hs, ?_⟩⟩
    rw [← ht, List.take_take, Nat.min_eq_left h1]
theorem flat_len (l : List Lv) : (l.flatMap Lv.cells).length = l.length * 27 := Pt.sl_length (cells := Lv.cells) (fun _ => rfl) l
theorem rng_saved {w : World} {gs n cap : Nat} {init : List Lv} {last : Lv} (h : w.ownsRow 0 67 27 (.slice (some ⟨gs, 0, none⟩) (n + 1) cap) (n + 1) ((init ++ [last]).flatMap Lv.cells)) (hn : init.length = n) : w.rangeAt gs (n * 27) last.cells := fun j v hj => by
  have hl : j < 27 := (List.getElem?_eq_some_iff.1 hj).1
  rw [h.cellAt (n * 27 + j) (by omega), List.flatMap_append, List.getElem?_append_right (by rw [flat_len, hn]; omega), flat_len, hn]
  have e : n * 27 + j - n * 27 = j := by omega
  rw [e]
  simpa using hj
/-- the states behind a Restore -/
def rest (x : X) (init : List Lv) (last : Lv) (gs n cap : Nat) : X := ⟨last, x.most, x.segs, .slice (some ⟨gs, 0, none⟩) n cap, init⟩
set_option maxRecDepth 8000 in
set_option maxHeartbeats 2000000 in
theorem restore_some (g : Nat) (x : X) (gs n cap : Nat) (init : List Lv) (last : Lv) (w : World) (h : G w g x) (hsv : x.sv = .slice (some ⟨gs, 0, none⟩) (n + 1) cap) (hs : x.saved = init ++ [last]) (hn : init.length = n) (hn2 : n ≤ 1000) :
    Calls Tryd.prog 14 #[.pointer (some ⟨g, 0, none⟩)] w fun E w' => E = .returned (.tuple #[]) ∧ To w w' g x (rest x init last gs n cap) := by
  obtain ⟨l, most, segs, sv, saved⟩ := x
  simp only at hsv hs
  subst hsv hs
  have HG := Lib.hid h
  have HNN := Lib.hid hn
  have hln : (init ++ [last]).length = n + 1 := by simp [hn]
  have HO : Hid (w.ownsRow 0 67 27 (.slice (some ⟨gs, 0, none⟩) (n + 1) cap) (n + 1) ((init ++ [last]).flatMap Lv.cells)) := Lib.hid (by have := h.own; rwa [hln] at this)
  have HLL : Hid (LO w last) := Lib.hid (h.svs last (by simp))
  have lt := h.row.lt
  have lgs : gs < w.heap.size := (HO.out.lt gs rfl).2
  have q29 : w.cell? ⟨g, 29, none⟩ = some (.slice (some ⟨gs, 0, none⟩) (n + 1) cap) := h.row.cell 29 rfl
  have hgg : gs ≠ g := fun e => by
    have := (List.nodup_cons.1 h.nd).1
    refine this (List.mem_append_right _ (List.mem_append_left _ ?_))
    exact own_mem (by rw [e]; rfl)
  obtain ⟨C, hC⟩ : ∃ C, last.cells = C := ⟨_, rfl⟩
  have HC := Lib.hid hC
  have hcl : n + 1 ≤ cap := by
    rcases HO.out.2 with ⟨h1, _⟩ | ⟨_, _, _, h1, _, _, h2, _⟩
    · cases h1
    · injection h1 with _ _ h1; omega
  clear h hn hln hC
  have hj : (0 : Int) < (n : Int) + 1 := by omega
  go_enter Tryd.func14, Tryd.ntmps14
  go_wp2_with (first
    | (go_at_call 12; ((with_reducible refine (Gs.depth_calls g (some ⟨gs, 0, none⟩) (n + 1) cap _ q29).mono ?_); rintro E w0 ⟨rfl, rfl⟩))
    | (refine wpList_load_mid rfl 67 (.tmp 14) rfl gs (n * 27) (by first | rfl | simp) C _ (by rw [← HC.out]; exact rng_saved HO.out HNN.out) Tryd.underlying67 rfl (by rw [← HC.out]; exact infoLv) ?_)
    | (refine wpList_store_part rfl 67 (.tmp 17) (.tmp 15) rfl g C l.cells [Value.int .i64 most, Value.int .i64 segs, .slice (some ⟨gs, 0, none⟩) (n + 1) cap] rfl (by first | rfl | simp) HG.out.rowL (by rw [← HC.out]; rfl) infoLv (by rw [← HC.out]; rfl) (by rw [← HC.out]; exact Lv.one HLL.out.s) ?_; intro w2 hr2 hc2; have l2 := hr2.lt; have HR2 := Lib.hid hr2; have HC2 := Lib.hid hc2; have r29 : w2.cell? ⟨g, 29, none⟩ = some (.slice (some ⟨gs, 0, none⟩) (n + 1) cap) := (by rw [← HC.out] at hr2; exact hr2.cell 29 rfl); have f29 := hr2.free 29; clear hr2 hc2))
  go_returns
  refine ⟨rfl, ?_⟩
  have hrow : Row (w2.setCell ⟨g, 29, none⟩ (.slice (some ⟨gs, 0, none⟩) n cap)) g (rest ⟨l, most, segs, .slice (some ⟨gs, 0, none⟩) (n + 1) cap, init ++ [last]⟩ init last gs n cap).cells.toArray := by
    have h2 := HR2.out
    rw [← HC.out] at h2
    exact cast (Row.set h2 29 _) rfl
  have hch : Chg [g] w (w2.setCell ⟨g, 29, none⟩ (.slice (some ⟨gs, 0, none⟩) n cap)) := HC2.out.setCell (Or.inl (by simp)) _
  have nd := HG.out.nd
  simp only [X.bl, X.low, List.flatMap_append, List.flatMap_cons, List.flatMap_nil, List.append_nil] at nd
  have hsub : ∀ b, b ∈ (rest ⟨l, most, segs, .slice (some ⟨gs, 0, none⟩) (n + 1) cap, init ++ [last]⟩ init last gs n cap).bl g → b ∈ X.bl g ⟨l, most, segs, .slice (some ⟨gs, 0, none⟩) (n + 1) cap, init ++ [last]⟩ := fun b hb => by
    simp only [rest, X.bl, X.low, List.flatMap_append, List.flatMap_cons, List.flatMap_nil, List.append_nil, List.mem_cons, List.mem_append] at hb ⊢
    rcases hb with h1 | h1 | h1 | h1
    · exact Or.inl h1
    · exact Or.inr (Or.inr (Or.inr (Or.inr h1)))
    · exact Or.inr (Or.inr (Or.inl h1))
    · exact Or.inr (Or.inr (Or.inr (Or.inl h1)))
  have ng : ∀ b, b ∈ l.bl ++ (own (.slice (some ⟨gs, 0, none⟩) (n + 1) cap) ++ (init.flatMap Lv.bl ++ last.bl)) → b ∉ [g] := fun b hb h2 => by
    rw [List.mem_singleton] at h2
    subst h2
    exact (List.nodup_cons.1 nd).1 hb
  refine ⟨⟨hrow, HLL.out.chg hch (fun b hb => ng b (by simp [hb])), ?_, fun l2 hl2 => (HG.out.svs l2 (List.mem_append_left _ hl2)).chg hch (fun b hb => ng b (by simp only [List.mem_append, List.mem_flatMap]; exact Or.inr (Or.inr (Or.inl ⟨l2, hl2, hb⟩)))), ?_⟩, (Chg.refl _ w).call hch (fun b hb => Or.inl (by rw [List.mem_singleton] at hb; subst hb; simp [X.bl])), fun b hb => Or.inl (hsub b hb)⟩
  · have h1 := owned_chg (owned_take HO.out (Nat.le_succ n)) hch (fun b hb => by
      simp only [Value.ownBlock, Option.some.injEq] at hb
      subst hb
      simpa using hgg)
    have h2 : (((init ++ [last]).flatMap Lv.cells).take (n * 27)) = init.flatMap Lv.cells := by
      rw [List.flatMap_append, List.take_append_of_le_length (by rw [flat_len, HNN.out]; exact Nat.le_refl _), List.take_of_length_le (by rw [flat_len, HNN.out]; exact Nat.le_refl _)]
    rw [h2] at h1
    show World.ownsRow _ 0 _ 27 (.slice (some ⟨gs, 0, none⟩) n cap) init.length (init.flatMap Lv.cells)
    rw [HNN.out]
    exact h1
  · obtain ⟨n1, n2⟩ := List.nodup_cons.1 nd
    refine List.nodup_cons.2 ⟨fun hb => n1 ?_, ?_⟩
    · have := hsub g (List.mem_cons_of_mem _ hb)
      simp only [rest, X.low, List.mem_append] at hb ⊢
      rcases hb with h1 | h1 | h1
      · exact Or.inr (Or.inr (Or.inr h1))
      · exact Or.inr (Or.inl h1)
      · exact Or.inr (Or.inr (Or.inl h1))
    · have n3 := (List.nodup_append.1 n2).2.1
      have hp : (own (.slice (some ⟨gs, 0, none⟩) (n + 1) cap) ++ (init.flatMap Lv.bl ++ last.bl)).Perm (last.bl ++ (own (.slice (some ⟨gs, 0, none⟩) n cap) ++ init.flatMap Lv.bl)) := by
        rw [← List.append_assoc]
        exact List.perm_append_comm
      exact hp.nodup_iff.1 n3
set_option maxRecDepth 8000 in
theorem restore_none (g : Nat) (x : X) (so : Option Addr) (cap : Nat) (w : World) (h : G w g x) (hsv : x.sv = .slice so 0 cap) :
    Calls Tryd.prog 14 #[.pointer (some ⟨g, 0, none⟩)] w fun E w' => E = .returned (.tuple #[]) ∧ w = w' := by
  have q29 : w.cell? ⟨g, 29, none⟩ = some (.slice so 0 cap) := by rw [← hsv]; exact h.row.cell 29 rfl
  clear h hsv
  go_enter Tryd.func14, Tryd.ntmps14
  go_wp2_with (go_at_call 12; ((with_reducible refine (Gs.depth_calls g so 0 cap _ q29).mono ?_); rintro E w0 ⟨rfl, rfl⟩))
  go_returns
  exact ⟨rfl, rfl⟩

end Go.Proofs.YtoflafbhfoncmaaDoor.Gt
end

section
namespace Go.Proofs.YtoflafbhfoncmaaDoor.Gt
open List renaming getElem_toArray → lga, getElem_cons_zero → lgz, getElem_cons_succ → lgs, setIfInBounds_toArray → lsa, set_cons_zero → lsz, set_cons_succ → lss
open Go.ChangeShapes Go.WideShapes Go.ChangeAt Go.RowKit
open Go.Proofs.YtoflafbhfoncmaaDoor.FixM (fits)
open Go.Proofs.YtoflafbhfoncmaaDoor.MatM (M6)
open Go.Proofs.YtoflafbhfoncmaaDoor.PathM (Seg St Z segCells)
open Go.Proofs.YtoflafbhfoncmaaDoor.Path (own own_mem own_of PathIs Segs)
open Go.Proofs.YtoflafbhfoncmaaDoor.Pt (Clip clipCells Src)
set_option linter.unusedVariables false
set_option linter.unusedSimpArgs false

open Go.Proofs.YtoflafbhfoncmaaDoor.Pt (raw_up info_parts3)
/-- the states behind a Save -/
def kept (x : X) (l : Lv) (g5 n c5 : Nat) : X := ⟨x.l, x.most, x.segs, .slice (some ⟨g5, 0, none⟩) (n + 1) c5, x.saved ++ [l]⟩
theorem To.save {w w1 w2 w5 : World} {g g5 c5 n : Nat} {x : X} {l : Lv} (h : G w g x) (hn : x.saved.length = n) (hu1 : Up w w1) (ho : LO w1 l) (hf : ∀ b ∈ l.bl, w.heap.size ≤ b ∧ b < w1.heap.size) (hu2 : Up w1 w2) (hC : Chg (own x.sv) w2 w5)
    (hown : w5.ownsRow 0 67 27 (.slice (some ⟨g5, 0, none⟩) (n + 1) c5) (n + 1) (x.saved.flatMap Lv.cells ++ l.cells)) (hat : x.sv.ownBlock = some g5 ∨ g5 = w2.heap.size) :
    To w (w5.setCell ⟨g, 29, none⟩ (.slice (some ⟨g5, 0, none⟩) (n + 1) c5)) g x (kept x l g5 n c5) := by
  have z1 := hu1.size
  have z2 := hu2.size
  have zc := hC.size
  have hlt := h.lt
  obtain ⟨n1, n2⟩ := List.nodup_cons.1 h.nd
  obtain ⟨n3, n4, n5⟩ := List.nodup_append.1 n2
  obtain ⟨n6, n7, n8⟩ := List.nodup_append.1 n4
  have hgb : g < w.heap.size := h.row.lt
  have hgs : ∀ b ∈ own x.sv, b ≠ g := fun b hb e => n1 (by subst e; exact List.mem_append_right _ (List.mem_append_left _ hb))
  have hg5 : g5 ≠ g := by
    rcases hat with h1 | h1
    · exact hgs g5 (own_mem h1)
    · omega
  have hcx : Chg (g :: own x.sv) w (w5.setCell ⟨g, 29, none⟩ (.slice (some ⟨g5, 0, none⟩) (n + 1) c5)) := by
    have h1 : Chg (g :: own x.sv) w w2 := Chg.of_up (Up.call hu1 hu2)
    exact (h1.call hC (fun k hk => Or.inl (List.mem_cons_of_mem _ hk))).setCell (Or.inl (by simp)) _
  have hcl : Chg (g :: own x.sv) w1 (w5.setCell ⟨g, 29, none⟩ (.slice (some ⟨g5, 0, none⟩) (n + 1) c5)) := by
    have h1 : Chg (g :: own x.sv) w1 w2 := Chg.of_up hu2
    exact (h1.call hC (fun k hk => Or.inl (List.mem_cons_of_mem _ hk))).setCell (Or.inl (by simp)) _
  have a1 : ∀ b ∈ x.l.bl, b ∉ g :: own x.sv := fun b hb h2 => by
    rcases List.mem_cons.1 h2 with h3 | h3
    · subst h3; exact n1 (List.mem_append_left _ hb)
    · exact n5 b hb b (List.mem_append_left _ h3) rfl
  have a2 : ∀ b ∈ x.saved.flatMap Lv.bl, b ∉ g :: own x.sv := fun b hb h2 => by
    rcases List.mem_cons.1 h2 with h3 | h3
    · subst h3; exact n1 (List.mem_append_right _ (List.mem_append_right _ hb))
    · exact n8 b h3 b hb rfl
  have a3 : ∀ b ∈ l.bl, b ∉ g :: own x.sv := fun b hb h2 => by
    have := hf b hb
    rcases List.mem_cons.1 h2 with h3 | h3
    · omega
    · have := (h.own.lt b (own_of h3)).2; omega
  have hrow : Row (w5.setCell ⟨g, 29, none⟩ (.slice (some ⟨g5, 0, none⟩) (n + 1) c5)) g (kept x l g5 n c5).cells.toArray := by
    have h1 : Row w5 g x.cells.toArray := ((h.row.up hu1).up hu2).chg hC (fun h2 => hgs g h2 rfl)
    exact cast (Row.set h1 29 _) rfl
  refine ⟨⟨hrow, h.cur.chg hcx a1, ?_, ?_, ?_⟩, (Chg.refl _ w).call hcx (fun b hb => Or.inl ?_), ?_⟩
  · show World.ownsRow _ 0 _ 27 (.slice (some ⟨g5, 0, none⟩) (n + 1) c5) (x.saved ++ [l]).length ((x.saved ++ [l]).flatMap Lv.cells)
    have e : (x.saved ++ [l]).length = n + 1 := by simp [hn]
    rw [e, List.flatMap_append, List.flatMap_cons, List.flatMap_nil, List.append_nil]
    exact owned_chg hown ((Chg.refl [g] w5).setCell (Or.inl (by simp)) _) (fun b hb => by
      simp only [Value.ownBlock, Option.some.injEq] at hb
      subst hb
      simpa using hg5)
  · intro l2 hl2
    rcases List.mem_append.1 hl2 with h1 | h1
    · exact (h.svs l2 h1).chg hcx (fun b hb => a2 b (List.mem_flatMap.2 ⟨l2, h1, hb⟩))
    · rw [List.mem_singleton] at h1
      subst h1
      exact ho.chg hcl a3
  · have e5 : own (.slice (some ⟨g5, 0, none⟩) (n + 1) c5) = [g5] := rfl
    simp only [X.bl, X.low, kept, e5, List.flatMap_append, List.flatMap_cons, List.flatMap_nil, List.append_nil]
    have f1 : ∀ b ∈ x.l.bl, b < w.heap.size := fun b hb => hlt b (by simp [X.bl, hb])
    have f2 : ∀ b ∈ x.saved.flatMap Lv.bl, b < w.heap.size := fun b hb => hlt b (List.mem_cons_of_mem _ (List.mem_append_right _ (List.mem_append_right _ hb)))
    have m5 : g5 ∉ x.l.bl ∧ g5 ∉ x.saved.flatMap Lv.bl ∧ g5 ∉ l.bl := by
      rcases hat with h1 | h1
      · refine ⟨fun h2 => a1 g5 h2 (List.mem_cons_of_mem _ (own_mem h1)), fun h2 => a2 g5 h2 (List.mem_cons_of_mem _ (own_mem h1)), fun h2 => a3 g5 h2 (List.mem_cons_of_mem _ (own_mem h1))⟩
      · refine ⟨fun h2 => by have := f1 g5 h2; omega, fun h2 => by have := f2 g5 h2; omega, fun h2 => by have := (hf g5 h2).2; omega⟩
    refine List.nodup_cons.2 ⟨fun hm => ?_, List.nodup_append.2 ⟨n3, List.nodup_append.2 ⟨by simp, List.nodup_append.2 ⟨n7, ho.nd, ?_⟩, ?_⟩, ?_⟩⟩
    · simp only [List.mem_append, List.mem_singleton] at hm
      rcases hm with h1 | h1 | h1 | h1
      · exact n1 (List.mem_append_left _ h1)
      · exact hg5 h1.symm
      · exact n1 (List.mem_append_right _ (List.mem_append_right _ h1))
      · have := (hf g h1).1; omega
    · intro a ha b hb e
      have := f2 a ha; have := (hf b hb).1; omega
    · intro a ha b hb e
      rw [List.mem_singleton] at ha
      subst ha e
      rcases List.mem_append.1 hb with h1 | h1
      · exact m5.2.1 h1
      · exact m5.2.2 h1
    · intro a ha b hb e
      subst e
      simp only [List.mem_append, List.mem_singleton] at hb
      rcases hb with h1 | h1 | h1
      · subst h1; exact m5.1 ha
      · exact n5 a ha a (List.mem_append_right _ h1) rfl
      · have := f1 a ha; have := (hf a h1).1; omega
  · rcases List.mem_cons.1 hb with h1 | h1
    · subst h1; simp [X.bl]
    · exact List.mem_cons_of_mem _ (List.mem_append_right _ (List.mem_append_left _ h1))
  · intro b hb
    have e5 : own (.slice (some ⟨g5, 0, none⟩) (n + 1) c5) = [g5] := rfl
    simp only [X.bl, X.low, kept, e5, List.flatMap_append, List.flatMap_cons, List.flatMap_nil, List.append_nil, List.mem_cons, List.mem_append, List.not_mem_nil, or_false] at hb ⊢
    rcases hb with h1 | h1 | h1 | h1 | h1
    · exact Or.inl (Or.inl h1)
    · exact Or.inl (Or.inr (Or.inl h1))
    · subst h1
      rcases hat with h2 | h2
      · exact Or.inl (Or.inr (Or.inr (Or.inl (own_mem h2))))
      · exact Or.inr (by omega)
    · exact Or.inl (Or.inr (Or.inr (Or.inr h1)))
    · exact Or.inr (hf b h1).1
theorem infoLv3 : (Tryd.prog.info? 67).map (fun i => (i.zero, i.size, i.bytes)) = some (some (.agg #[.int .i64 0, .int .i64 0, .int .i64 0, .int .i64 0, .int .i64 0, .int .i64 0, .int .i64 0, .int .i64 0, .int .i64 0, .int .i64 0, .int .i64 0, .int .i64 0, .int .i64 0, .int .i64 0, .int .i64 0, .slice none 0 0, .int .i64 0, .int .i64 0, .int .i64 0, .int .i64 0, .int .i64 0, .int .i64 0, .int .i64 0, .int .i64 0, .slice none 0 0, .bool false, .pointer none]), 27, 248) := by kernel_rfl

theorem rng_set29 {W : World} {g : Nat} {C : List Value} {u : Value} (h : W.rangeAt g 0 C) (hl : C.length = 27) : (W.setCell ⟨g, 29, none⟩ u).rangeAt g 0 C := fun j v hj => by
  have hj2 := (List.getElem?_eq_some_iff.1 hj).1
  exact (World.cell?_setCell_other W _ _ u (fun e => by injection e; omega)).trans (h j v hj)
set_option maxRecDepth 8000 in
set_option maxHeartbeats 1000000 in
theorem save_full (g : Nat) (x : X) (so : Option Addr) (n sc : Nat) (w : World) (h : G w g x) (hsv : x.sv = .slice so n sc) (hm : x.most ≤ (n : Int)) :
    Calls Tryd.prog 13 #[.pointer (some ⟨g, 0, none⟩)] w fun E w' => E = .returned (.int .i64 9) ∧ Up w w' := by
  have HG := Lib.hid h
  have lt := h.row.lt
  have q29 : w.cell? ⟨g, 29, none⟩ = some (.slice so n sc) := by rw [← hsv]; exact h.row.cell 29 rfl
  have q27 : w.cell? ⟨g, 27, none⟩ = some (.int .i64 x.most) := h.row.cell 27 rfl
  have f29 := h.row.free 29
  have hd : decide (x.most ≤ (n : Int)) = true := decide_eq_true hm
  clear h hsv
  go_enter Tryd.func13, Tryd.ntmps13
  go_wp2
  go_region
  go_wp2
  go_ret
  exact ⟨rfl, by (repeat' (first | (with_reducible first | exact Up.refl _ | assumption | refine Up.alloc ?_ _ | refine Up.drew ?_ | refine Up.drewN ?_ _ | refine Up.setCell ?_ ?_ _ | refine Up.call ?_ (by assumption)) | go_size))⟩
set_option maxRecDepth 8000 in
set_option maxHeartbeats 4000000 in
theorem save_ok (g : Nat) (x : X) (so : Option Addr) (n sc : Nat) (w : World) (h : G w g x) (hsv : x.sv = .slice so n sc) (hn : x.saved.length = n) (hn2 : n ≤ 1000) (hm : ¬ x.most ≤ (n : Int)) (hl : Le x.l.s.dat) :
    Calls Tryd.prog 13 #[.pointer (some ⟨g, 0, none⟩)] w fun E w' => E = .returned (.int .i64 0) ∧ ∃ l g5 c5, l.s.dat = x.l.s.dat ∧ l.t = x.l.t ∧ To w w' g x (kept x l g5 n c5) := by
  obtain ⟨i0, hi, hz0, hz1, hz2⟩ := info_parts3 infoLv3
  have HG := Lib.hid h
  have lt := h.row.lt
  have q29 : w.cell? ⟨g, 29, none⟩ = some (.slice so n sc) := by rw [← hsv]; exact h.row.cell 29 rfl
  have q27 : w.cell? ⟨g, 27, none⟩ = some (.int .i64 x.most) := h.row.cell 27 rfl
  have f29 := h.row.free 29
  have hd : decide (x.most ≤ (n : Int)) = false := decide_eq_false hm
  have HL := Lib.hid hl
  have HN := Lib.hid hn
  have HSV := Lib.hid hsv
  obtain ⟨C, hC⟩ : ∃ C, x.l.cells = C := ⟨_, rfl⟩
  have HC := Lib.hid hC
  have HR : Hid (Row w g (C ++ [Value.int .i64 x.most, Value.int .i64 x.segs, x.sv]).toArray) := Lib.hid (by rw [← hC]; exact h.rowL)
  clear h hsv hn hl hC
  go_enter Tryd.func13, Tryd.ntmps13
  go_wp2
  go_region
  go_wp2
  refine wp_region_held_drew (S := fun w' => w'.rangeAt g 0 C) (by kernel_rfl) ?_ (fun hHeld => ?_)
  · exact rng_part (show Row _ g _ from Row.drew (by first | exact HR.out | exact Row.drew HR.out))
  refine wpAnyH_take (i := 0) (v := ?_) rfl (by decide +kernel) (by decide +kernel) (by decide +kernel) (fun _ _ _ h => h) (Or.inl ⟨by rfl, ?_⟩) (by assumption) ?_
  rotate_left
  · intro w2 hSw
    (try dsimp only at hSw)
    (try (obtain ⟨hs1, hs2⟩ := hSw))
    go_simp
    (try (with_reducible rfl))
  (try simp only [Act.put, lga, lgz, lgs, lsa, lsz, lss])
  refine wpAnyH_take (i := 1) (v := ?_) rfl (by decide +kernel) (by decide +kernel) (by decide +kernel) (fun _ _ _ h => h) (Or.inl ⟨by rfl, ?_⟩) (by assumption) ?_
  rotate_left
  · intro w2 hSw
    (try dsimp only at hSw)
    (try (obtain ⟨hs1, hs2⟩ := hSw))
    go_simp
    (try (with_reducible rfl))
  (try simp only [Act.put, lga, lgz, lgs, lsa, lsz, lss])
  refine wpAnyH_take (i := 2) (v := ?_) rfl (by decide +kernel) (by decide +kernel) (by decide +kernel) (fun _ _ _ h => h) (Or.inl ⟨by rfl, ?_⟩) (by assumption) ?_
  rotate_left
  · intro w2 hSw
    (try dsimp only at hSw)
    (try (obtain ⟨hs1, hs2⟩ := hSw))
    go_simp
    (try (with_reducible rfl))
  (try simp only [Act.put, lga, lgz, lgs, lsa, lsz, lss])
  refine wpAnyH_take (i := 3) (v := ?_) rfl (by decide +kernel) (by decide +kernel) (by decide +kernel) (fun _ _ _ h => h) (Or.inl ⟨by rfl, ?_⟩) (by assumption) ?_
  rotate_left
  · intro w2 hSw
    (try dsimp only at hSw)
    (try (obtain ⟨hs1, hs2⟩ := hSw))
    go_simp
    (try (with_reducible rfl))
  (try simp only [Act.put, lga, lgz, lgs, lsa, lsz, lss])
  refine wpAnyH_take (i := 5) (v := ?_) rfl (by decide +kernel) (by decide +kernel) (by decide +kernel) (fun _ _ _ h => h) (Or.inl ⟨by rfl, ?_⟩) (by assumption) ?_
  rotate_left
  · intro w2 hSw
    (try dsimp only at hSw)
    (try (obtain ⟨hs1, hs2⟩ := hSw))
    go_simp
    (try (with_reducible rfl))
  (try simp only [Act.put, lga, lgz, lgs, lsa, lsz, lss])
  refine wpAnyH_take (i := 6) (v := ?_) rfl (by decide +kernel) (by decide +kernel) (by decide +kernel) (fun _ _ _ h => h) (Or.inl ⟨by rfl, ?_⟩) (by assumption) ?_
  rotate_left
  · intro w2 hSw
    (try dsimp only at hSw)
    (try (obtain ⟨hs1, hs2⟩ := hSw))
    go_simp
    (try (with_reducible rfl))
  (try simp only [Act.put, lga, lgz, lgs, lsa, lsz, lss])
  refine wpAnyH_take (i := 7) (v := ?_) rfl (by decide +kernel) (by decide +kernel) (by decide +kernel) (fun _ _ _ h => h) (Or.inl ⟨by rfl, ?_⟩) (by assumption) ?_
  rotate_left
  · intro w2 hSw
    (try dsimp only at hSw)
    (try (obtain ⟨hs1, hs2⟩ := hSw))
    go_simp
    (try (with_reducible rfl))
  (try simp only [Act.put, lga, lgz, lgs, lsa, lsz, lss])
  refine wpAnyH_take (i := 8) rfl (by decide +kernel) (by decide +kernel) (by decide +kernel) (fun _ _ _ h => h) (yieldsIf_load_mid (by rfl) 67 (.tmp 24) rfl g 0 rfl C _ (fun _ h => h) Tryd.underlying67 rfl (by rw [← HC.out]; exact infoLv)) (by assumption) ?_
  (try simp only [Act.put, lga, lgz, lgs, lsa, lsz, lss])
  refine wpAnyH_ready (rs := [4, 9]) (by decide +kernel) (by simp) ?_
  refine AllReadyH.cons rfl (fun K hK => ?_) (AllReadyH.cons rfl (fun K hK => ?_) (AllReadyH.nil))
  · skip
    (try simp only [lga, lgz, lgs])
    (go_simp)
    refine hK.out _ _ ?_ (fun hHeld => ?_)
    · (first | exact hHeld)
    clear hK K
    (try simp only [Act.put, lga, lgz, lgs, lsa, lsz, lss])
    refine wpAnyH_ready (rs := [9]) (by decide +kernel) (by simp) ?_
    refine AllReadyH.cons rfl (fun K hK => ?_) (AllReadyH.nil)
    (try simp only [lga, lgz, lgs])
    (go_simp; go_at_call 40; (refine Calls.mono (show Calls _ _ #[.agg C.toArray] _ _ from (by rw [← HC.out]; exact copied_L x.l _ (HG.out.cur.up (Up.drew (Up.drew (Up.refl w)))) HL.out)) ?_); rintro E w1 ⟨l1, rfl, hd1, ht1, ho1, hf1, hu1⟩; have z1 := hu1.size; (try simp at z1); have HD1 := Lib.hid hd1; have HT1 := Lib.hid ht1; have HO1 := Lib.hid ho1; have HF1 : Hid (∀ b ∈ l1.bl, w.heap.size ≤ b ∧ b < w1.heap.size) := Lib.hid (fun b hb => by have := hf1 b hb; simpa using this); have HU1 : Hid (Up w w1) := Lib.hid (by (repeat' (first | (with_reducible first | exact Up.refl _ | assumption | refine Up.alloc ?_ _ | refine Up.drew ?_ | refine Up.drewN ?_ _ | refine Up.setCell ?_ ?_ _ | refine Up.call ?_ (by assumption)) | go_size))); have e1 : l1.cells.toArray = #[.int .i64 l1.s.c.a, .int .i64 l1.s.c.b, .int .i64 l1.s.c.c, .int .i64 l1.s.c.d, .int .i64 l1.s.c.x, .int .i64 l1.s.c.y, .int .i64 l1.s.sp, .int .i64 l1.s.p0, .int .i64 l1.s.p1, .int .i64 l1.s.p2, .int .i64 l1.s.p3, .int .i64 l1.s.wd, .int .i64 l1.s.cap, .int .i64 l1.s.jn, .int .i64 l1.s.mt, l1.s.dv, .int .i64 l1.s.ph, .int .i64 l1.s.fn, .int .i64 l1.s.fm.a, .int .i64 l1.s.fm.b, .int .i64 l1.s.fm.c, .int .i64 l1.s.fm.d, .int .i64 l1.s.fm.x, .int .i64 l1.s.fm.y, l1.s.cv, .bool l1.s.dk, .pointer (some ⟨l1.p, 0, none⟩)] := rfl; rw [e1]; clear hd1 ht1 ho1 hf1 e1; have q29b : w1.cell? ⟨g, 29, none⟩ = some (.slice so n sc) := (HU1.out.cells.1 g 29 lt).trans q29; have lt1 : g < w1.heap.size := Nat.lt_of_lt_of_le lt HU1.out.size; (try dsimp only))
    refine hK.out _ _ ?_ (fun hHeld => ?_)
    · exact rng_part (HR.out.up HU1.out)
    clear hK K
    (try simp only [Act.put, lga, lgz, lgs, lsa, lsz, lss])
    refine wpAnyH_ready (rs := [10]) (by decide +kernel) (by simp) ?_
    refine AllReadyH.cons rfl (fun K hK => ?_) (AllReadyH.nil)
    (try simp only [lga, lgz, lgs])
    (go_simp; have RN1 : Row (w1.alloc (.cells #[.int .i64 l1.s.c.a, .int .i64 l1.s.c.b, .int .i64 l1.s.c.c, .int .i64 l1.s.c.d, .int .i64 l1.s.c.x, .int .i64 l1.s.c.y, .int .i64 l1.s.sp, .int .i64 l1.s.p0, .int .i64 l1.s.p1, .int .i64 l1.s.p2, .int .i64 l1.s.p3, .int .i64 l1.s.wd, .int .i64 l1.s.cap, .int .i64 l1.s.jn, .int .i64 l1.s.mt, l1.s.dv, .int .i64 l1.s.ph, .int .i64 l1.s.fn, .int .i64 l1.s.fm.a, .int .i64 l1.s.fm.b, .int .i64 l1.s.fm.c, .int .i64 l1.s.fm.d, .int .i64 l1.s.fm.x, .int .i64 l1.s.fm.y, l1.s.cv, .bool l1.s.dk, .pointer (some ⟨l1.p, 0, none⟩)] 67)) w1.heap.size #[.int .i64 l1.s.c.a, .int .i64 l1.s.c.b, .int .i64 l1.s.c.c, .int .i64 l1.s.c.d, .int .i64 l1.s.c.x, .int .i64 l1.s.c.y, .int .i64 l1.s.sp, .int .i64 l1.s.p0, .int .i64 l1.s.p1, .int .i64 l1.s.p2, .int .i64 l1.s.p3, .int .i64 l1.s.wd, .int .i64 l1.s.cap, .int .i64 l1.s.jn, .int .i64 l1.s.mt, l1.s.dv, .int .i64 l1.s.ph, .int .i64 l1.s.fn, .int .i64 l1.s.fm.a, .int .i64 l1.s.fm.b, .int .i64 l1.s.fm.c, .int .i64 l1.s.fm.d, .int .i64 l1.s.fm.x, .int .i64 l1.s.fm.y, l1.s.cv, .bool l1.s.dk, .pointer (some ⟨l1.p, 0, none⟩)] := (by (repeat' (with_reducible first | assumption | (refine Row.at _ _ ?_; (simp; done)) | refine Row.alloc ?_ _ | refine Row.drew ?_ | refine Row.drewN ?_ _ | refine Row.other ?_ (by first | (simp; done) | (simp; omega) | omega) _ | refine Row.up ?_ (by assumption) | refine Row.chg ?_ (by assumption) (by first | (simp; done) | (simp; omega))))); have q29c := ((Up.alloc (Up.refl w1) (.cells #[.int .i64 l1.s.c.a, .int .i64 l1.s.c.b, .int .i64 l1.s.c.c, .int .i64 l1.s.c.d, .int .i64 l1.s.c.x, .int .i64 l1.s.c.y, .int .i64 l1.s.sp, .int .i64 l1.s.p0, .int .i64 l1.s.p1, .int .i64 l1.s.p2, .int .i64 l1.s.p3, .int .i64 l1.s.wd, .int .i64 l1.s.cap, .int .i64 l1.s.jn, .int .i64 l1.s.mt, l1.s.dv, .int .i64 l1.s.ph, .int .i64 l1.s.fn, .int .i64 l1.s.fm.a, .int .i64 l1.s.fm.b, .int .i64 l1.s.fm.c, .int .i64 l1.s.fm.d, .int .i64 l1.s.fm.x, .int .i64 l1.s.fm.y, l1.s.cv, .bool l1.s.dk, .pointer (some ⟨l1.p, 0, none⟩)] 67)).cells.1 g 29 lt1).trans q29b)
    refine hK.out _ _ ?_ (fun hHeld => ?_)
    · exact rng_part ((HR.out.up HU1.out).alloc _)
    clear hK K
    (try simp only [Act.put, lga, lgz, lgs, lsa, lsz, lss])
    refine wpAnyH_ready (rs := [11]) (by decide +kernel) (by simp) ?_
    refine AllReadyH.cons rfl (fun K hK => ?_) (AllReadyH.nil)
    (try simp only [lga, lgz, lgs])
    (rw [if_pos (by rfl)]; refine wp_append_lies _ (.tmp 21) (.tmp 27) 68 rfl 0 67 i0 _ 27 248 Tryd.underlying68 hi hz0 hz1 hz2 rfl (by decide) (.slice so n sc) n (x.saved.flatMap Lv.cells) rfl (raw_up (by have h9 := HG.out.own; rw [HSV.out, HN.out] at h9; exact h9) (show Up w _ from Up.alloc HU1.out _)) ⟨w1.heap.size, 0, none⟩ 1 1 l1.cells rfl rfl (news_at RN1 rfl) (Lv.one HO1.out.s) (by decide) (by unfold maxLen; omega) (by omega) (Nat.zero_le _) _ rfl ?_; intro g5 c5 w5 hown5 hgr5 hat5 hg5; have HC5 : Hid (Chg (own x.sv) (w1.alloc (.cells #[.int .i64 l1.s.c.a, .int .i64 l1.s.c.b, .int .i64 l1.s.c.c, .int .i64 l1.s.c.d, .int .i64 l1.s.c.x, .int .i64 l1.s.c.y, .int .i64 l1.s.sp, .int .i64 l1.s.p0, .int .i64 l1.s.p1, .int .i64 l1.s.p2, .int .i64 l1.s.p3, .int .i64 l1.s.wd, .int .i64 l1.s.cap, .int .i64 l1.s.jn, .int .i64 l1.s.mt, l1.s.dv, .int .i64 l1.s.ph, .int .i64 l1.s.fn, .int .i64 l1.s.fm.a, .int .i64 l1.s.fm.b, .int .i64 l1.s.fm.c, .int .i64 l1.s.fm.d, .int .i64 l1.s.fm.x, .int .i64 l1.s.fm.y, l1.s.cv, .bool l1.s.dk, .pointer (some ⟨l1.p, 0, none⟩)] 67)) w5) := Lib.hid (by rw [HSV.out]; exact Chg.grown (Chg.of_up (Up.refl _)) hgr5 (fun k hk => Or.inl (own_mem hk))); have HTO : Hid (To w (w5.setCell ⟨g, 29, none⟩ (.slice (some ⟨g5, 0, none⟩) (n + 1) c5)) g x (kept x l1 g5 n c5)) := Lib.hid (To.save HG.out HN.out HU1.out HO1.out HF1.out (Up.alloc (Up.refl w1) _) HC5.out hown5 (by rw [HSV.out]; exact hat5)); have RG5 : Row w5 g x.cells.toArray := ((HG.out.row.up HU1.out).alloc _).chg HC5.out (fun h2 => (List.nodup_cons.1 HG.out.nd).1 (List.mem_append_right _ (List.mem_append_left _ h2))); have q29d := RG5.cell 29 rfl; have f29d := RG5.free 29; have lt5 := RG5.lt; clear hown5 hgr5 hat5)
    refine hK.out _ _ ?_ (fun hHeld => ?_)
    · exact (by have h9 : Row w5 g (C ++ [Value.int .i64 x.most, Value.int .i64 x.segs, x.sv]).toArray := (by rw [← HC.out]; exact RG5); exact rng_part h9)
    clear hK K
    (try simp only [Act.put, lga, lgz, lgs, lsa, lsz, lss])
    refine wpAnyH_take (i := 12) (v := ?_) rfl (by decide +kernel) (by decide +kernel) (by decide +kernel) (fun _ _ _ h => h) (Or.inl ⟨by rfl, ?_⟩) (by assumption) ?_
    rotate_left
    · intro w2 hSw
      (try dsimp only at hSw)
      (try (obtain ⟨hs1, hs2⟩ := hSw))
      go_simp
      (try (with_reducible rfl))
    (try simp only [Act.put, lga, lgz, lgs, lsa, lsz, lss])
    refine wpAnyH_take (i := 13) (v := ?_) rfl (by decide +kernel) (by decide +kernel) (by decide +kernel) (fun _ _ _ h => h) (Or.inl ⟨by rfl, ?_⟩) (by assumption) ?_
    rotate_left
    · intro w2 hSw
      (try dsimp only at hSw)
      (try (obtain ⟨hs1, hs2⟩ := hSw))
      go_simp
      (try (with_reducible rfl))
    (try simp only [Act.put, lga, lgz, lgs, lsa, lsz, lss])
    refine wpAnyH_ready (rs := [14]) (by decide +kernel) (by simp) ?_
    refine AllReadyH.cons rfl (fun K hK => ?_) (AllReadyH.nil)
    (try simp only [lga, lgz, lgs])
    go_simp
    refine hK.out _ _ ?_ (fun hHeld => ?_)
    · exact rng_set29 hHeld (by rw [← HC.out]; rfl)
    clear hK K
    refine wpAnyH_done (by decide +kernel) ?_ _
    go_wp2
    go_ret
    exact ⟨rfl, l1, g5, c5, HD1.out, HT1.out, HTO.out⟩
  · skip
    (try simp only [lga, lgz, lgs])
    (go_simp; go_at_call 40; (refine Calls.mono (show Calls _ _ #[.agg C.toArray] _ _ from (by rw [← HC.out]; exact copied_L x.l _ (HG.out.cur.up (Up.drew (Up.drew (Up.refl w)))) HL.out)) ?_); rintro E w1 ⟨l1, rfl, hd1, ht1, ho1, hf1, hu1⟩; have z1 := hu1.size; (try simp at z1); have HD1 := Lib.hid hd1; have HT1 := Lib.hid ht1; have HO1 := Lib.hid ho1; have HF1 : Hid (∀ b ∈ l1.bl, w.heap.size ≤ b ∧ b < w1.heap.size) := Lib.hid (fun b hb => by have := hf1 b hb; simpa using this); have HU1 : Hid (Up w w1) := Lib.hid (by (repeat' (first | (with_reducible first | exact Up.refl _ | assumption | refine Up.alloc ?_ _ | refine Up.drew ?_ | refine Up.drewN ?_ _ | refine Up.setCell ?_ ?_ _ | refine Up.call ?_ (by assumption)) | go_size))); have e1 : l1.cells.toArray = #[.int .i64 l1.s.c.a, .int .i64 l1.s.c.b, .int .i64 l1.s.c.c, .int .i64 l1.s.c.d, .int .i64 l1.s.c.x, .int .i64 l1.s.c.y, .int .i64 l1.s.sp, .int .i64 l1.s.p0, .int .i64 l1.s.p1, .int .i64 l1.s.p2, .int .i64 l1.s.p3, .int .i64 l1.s.wd, .int .i64 l1.s.cap, .int .i64 l1.s.jn, .int .i64 l1.s.mt, l1.s.dv, .int .i64 l1.s.ph, .int .i64 l1.s.fn, .int .i64 l1.s.fm.a, .int .i64 l1.s.fm.b, .int .i64 l1.s.fm.c, .int .i64 l1.s.fm.d, .int .i64 l1.s.fm.x, .int .i64 l1.s.fm.y, l1.s.cv, .bool l1.s.dk, .pointer (some ⟨l1.p, 0, none⟩)] := rfl; rw [e1]; clear hd1 ht1 ho1 hf1 e1; have q29b : w1.cell? ⟨g, 29, none⟩ = some (.slice so n sc) := (HU1.out.cells.1 g 29 lt).trans q29; have lt1 : g < w1.heap.size := Nat.lt_of_lt_of_le lt HU1.out.size; (try dsimp only))
    refine hK.out _ _ ?_ (fun hHeld => ?_)
    · exact rng_part (HR.out.up HU1.out)
    clear hK K
    (try simp only [Act.put, lga, lgz, lgs, lsa, lsz, lss])
    refine wpAnyH_ready (rs := [4, 10]) (by decide +kernel) (by simp) ?_
    refine AllReadyH.cons rfl (fun K hK => ?_) (AllReadyH.cons rfl (fun K hK => ?_) (AllReadyH.nil))
    · skip
      (try simp only [lga, lgz, lgs])
      (go_simp)
      refine hK.out _ _ ?_ (fun hHeld => ?_)
      · (first | exact hHeld)
      clear hK K
      (try simp only [Act.put, lga, lgz, lgs, lsa, lsz, lss])
      refine wpAnyH_ready (rs := [10]) (by decide +kernel) (by simp) ?_
      refine AllReadyH.cons rfl (fun K hK => ?_) (AllReadyH.nil)
      (try simp only [lga, lgz, lgs])
      (go_simp; have RN1 : Row (w1.alloc (.cells #[.int .i64 l1.s.c.a, .int .i64 l1.s.c.b, .int .i64 l1.s.c.c, .int .i64 l1.s.c.d, .int .i64 l1.s.c.x, .int .i64 l1.s.c.y, .int .i64 l1.s.sp, .int .i64 l1.s.p0, .int .i64 l1.s.p1, .int .i64 l1.s.p2, .int .i64 l1.s.p3, .int .i64 l1.s.wd, .int .i64 l1.s.cap, .int .i64 l1.s.jn, .int .i64 l1.s.mt, l1.s.dv, .int .i64 l1.s.ph, .int .i64 l1.s.fn, .int .i64 l1.s.fm.a, .int .i64 l1.s.fm.b, .int .i64 l1.s.fm.c, .int .i64 l1.s.fm.d, .int .i64 l1.s.fm.x, .int .i64 l1.s.fm.y, l1.s.cv, .bool l1.s.dk, .pointer (some ⟨l1.p, 0, none⟩)] 67)) w1.heap.size #[.int .i64 l1.s.c.a, .int .i64 l1.s.c.b, .int .i64 l1.s.c.c, .int .i64 l1.s.c.d, .int .i64 l1.s.c.x, .int .i64 l1.s.c.y, .int .i64 l1.s.sp, .int .i64 l1.s.p0, .int .i64 l1.s.p1, .int .i64 l1.s.p2, .int .i64 l1.s.p3, .int .i64 l1.s.wd, .int .i64 l1.s.cap, .int .i64 l1.s.jn, .int .i64 l1.s.mt, l1.s.dv, .int .i64 l1.s.ph, .int .i64 l1.s.fn, .int .i64 l1.s.fm.a, .int .i64 l1.s.fm.b, .int .i64 l1.s.fm.c, .int .i64 l1.s.fm.d, .int .i64 l1.s.fm.x, .int .i64 l1.s.fm.y, l1.s.cv, .bool l1.s.dk, .pointer (some ⟨l1.p, 0, none⟩)] := (by (repeat' (with_reducible first | assumption | (refine Row.at _ _ ?_; (simp; done)) | refine Row.alloc ?_ _ | refine Row.drew ?_ | refine Row.drewN ?_ _ | refine Row.other ?_ (by first | (simp; done) | (simp; omega) | omega) _ | refine Row.up ?_ (by assumption) | refine Row.chg ?_ (by assumption) (by first | (simp; done) | (simp; omega))))); have q29c := ((Up.alloc (Up.refl w1) (.cells #[.int .i64 l1.s.c.a, .int .i64 l1.s.c.b, .int .i64 l1.s.c.c, .int .i64 l1.s.c.d, .int .i64 l1.s.c.x, .int .i64 l1.s.c.y, .int .i64 l1.s.sp, .int .i64 l1.s.p0, .int .i64 l1.s.p1, .int .i64 l1.s.p2, .int .i64 l1.s.p3, .int .i64 l1.s.wd, .int .i64 l1.s.cap, .int .i64 l1.s.jn, .int .i64 l1.s.mt, l1.s.dv, .int .i64 l1.s.ph, .int .i64 l1.s.fn, .int .i64 l1.s.fm.a, .int .i64 l1.s.fm.b, .int .i64 l1.s.fm.c, .int .i64 l1.s.fm.d, .int .i64 l1.s.fm.x, .int .i64 l1.s.fm.y, l1.s.cv, .bool l1.s.dk, .pointer (some ⟨l1.p, 0, none⟩)] 67)).cells.1 g 29 lt1).trans q29b)
      refine hK.out _ _ ?_ (fun hHeld => ?_)
      · exact rng_part ((HR.out.up HU1.out).alloc _)
      clear hK K
      (try simp only [Act.put, lga, lgz, lgs, lsa, lsz, lss])
      refine wpAnyH_ready (rs := [11]) (by decide +kernel) (by simp) ?_
      refine AllReadyH.cons rfl (fun K hK => ?_) (AllReadyH.nil)
      (try simp only [lga, lgz, lgs])
      (rw [if_pos (by rfl)]; refine wp_append_lies _ (.tmp 21) (.tmp 27) 68 rfl 0 67 i0 _ 27 248 Tryd.underlying68 hi hz0 hz1 hz2 rfl (by decide) (.slice so n sc) n (x.saved.flatMap Lv.cells) rfl (raw_up (by have h9 := HG.out.own; rw [HSV.out, HN.out] at h9; exact h9) (show Up w _ from Up.alloc HU1.out _)) ⟨w1.heap.size, 0, none⟩ 1 1 l1.cells rfl rfl (news_at RN1 rfl) (Lv.one HO1.out.s) (by decide) (by unfold maxLen; omega) (by omega) (Nat.zero_le _) _ rfl ?_; intro g5 c5 w5 hown5 hgr5 hat5 hg5; have HC5 : Hid (Chg (own x.sv) (w1.alloc (.cells #[.int .i64 l1.s.c.a, .int .i64 l1.s.c.b, .int .i64 l1.s.c.c, .int .i64 l1.s.c.d, .int .i64 l1.s.c.x, .int .i64 l1.s.c.y, .int .i64 l1.s.sp, .int .i64 l1.s.p0, .int .i64 l1.s.p1, .int .i64 l1.s.p2, .int .i64 l1.s.p3, .int .i64 l1.s.wd, .int .i64 l1.s.cap, .int .i64 l1.s.jn, .int .i64 l1.s.mt, l1.s.dv, .int .i64 l1.s.ph, .int .i64 l1.s.fn, .int .i64 l1.s.fm.a, .int .i64 l1.s.fm.b, .int .i64 l1.s.fm.c, .int .i64 l1.s.fm.d, .int .i64 l1.s.fm.x, .int .i64 l1.s.fm.y, l1.s.cv, .bool l1.s.dk, .pointer (some ⟨l1.p, 0, none⟩)] 67)) w5) := Lib.hid (by rw [HSV.out]; exact Chg.grown (Chg.of_up (Up.refl _)) hgr5 (fun k hk => Or.inl (own_mem hk))); have HTO : Hid (To w (w5.setCell ⟨g, 29, none⟩ (.slice (some ⟨g5, 0, none⟩) (n + 1) c5)) g x (kept x l1 g5 n c5)) := Lib.hid (To.save HG.out HN.out HU1.out HO1.out HF1.out (Up.alloc (Up.refl w1) _) HC5.out hown5 (by rw [HSV.out]; exact hat5)); have RG5 : Row w5 g x.cells.toArray := ((HG.out.row.up HU1.out).alloc _).chg HC5.out (fun h2 => (List.nodup_cons.1 HG.out.nd).1 (List.mem_append_right _ (List.mem_append_left _ h2))); have q29d := RG5.cell 29 rfl; have f29d := RG5.free 29; have lt5 := RG5.lt; clear hown5 hgr5 hat5)
      refine hK.out _ _ ?_ (fun hHeld => ?_)
      · exact (by have h9 : Row w5 g (C ++ [Value.int .i64 x.most, Value.int .i64 x.segs, x.sv]).toArray := (by rw [← HC.out]; exact RG5); exact rng_part h9)
      clear hK K
      (try simp only [Act.put, lga, lgz, lgs, lsa, lsz, lss])
      refine wpAnyH_take (i := 12) (v := ?_) rfl (by decide +kernel) (by decide +kernel) (by decide +kernel) (fun _ _ _ h => h) (Or.inl ⟨by rfl, ?_⟩) (by assumption) ?_
      rotate_left
      · intro w2 hSw
        (try dsimp only at hSw)
        (try (obtain ⟨hs1, hs2⟩ := hSw))
        go_simp
        (try (with_reducible rfl))
      (try simp only [Act.put, lga, lgz, lgs, lsa, lsz, lss])
      refine wpAnyH_take (i := 13) (v := ?_) rfl (by decide +kernel) (by decide +kernel) (by decide +kernel) (fun _ _ _ h => h) (Or.inl ⟨by rfl, ?_⟩) (by assumption) ?_
      rotate_left
      · intro w2 hSw
        (try dsimp only at hSw)
        (try (obtain ⟨hs1, hs2⟩ := hSw))
        go_simp
        (try (with_reducible rfl))
      (try simp only [Act.put, lga, lgz, lgs, lsa, lsz, lss])
      refine wpAnyH_ready (rs := [14]) (by decide +kernel) (by simp) ?_
      refine AllReadyH.cons rfl (fun K hK => ?_) (AllReadyH.nil)
      (try simp only [lga, lgz, lgs])
      go_simp
      refine hK.out _ _ ?_ (fun hHeld => ?_)
      · exact rng_set29 hHeld (by rw [← HC.out]; rfl)
      clear hK K
      refine wpAnyH_done (by decide +kernel) ?_ _
      go_wp2
      go_ret
      exact ⟨rfl, l1, g5, c5, HD1.out, HT1.out, HTO.out⟩
    · skip
      (try simp only [lga, lgz, lgs])
      (go_simp; have RN1 : Row (w1.alloc (.cells #[.int .i64 l1.s.c.a, .int .i64 l1.s.c.b, .int .i64 l1.s.c.c, .int .i64 l1.s.c.d, .int .i64 l1.s.c.x, .int .i64 l1.s.c.y, .int .i64 l1.s.sp, .int .i64 l1.s.p0, .int .i64 l1.s.p1, .int .i64 l1.s.p2, .int .i64 l1.s.p3, .int .i64 l1.s.wd, .int .i64 l1.s.cap, .int .i64 l1.s.jn, .int .i64 l1.s.mt, l1.s.dv, .int .i64 l1.s.ph, .int .i64 l1.s.fn, .int .i64 l1.s.fm.a, .int .i64 l1.s.fm.b, .int .i64 l1.s.fm.c, .int .i64 l1.s.fm.d, .int .i64 l1.s.fm.x, .int .i64 l1.s.fm.y, l1.s.cv, .bool l1.s.dk, .pointer (some ⟨l1.p, 0, none⟩)] 67)) w1.heap.size #[.int .i64 l1.s.c.a, .int .i64 l1.s.c.b, .int .i64 l1.s.c.c, .int .i64 l1.s.c.d, .int .i64 l1.s.c.x, .int .i64 l1.s.c.y, .int .i64 l1.s.sp, .int .i64 l1.s.p0, .int .i64 l1.s.p1, .int .i64 l1.s.p2, .int .i64 l1.s.p3, .int .i64 l1.s.wd, .int .i64 l1.s.cap, .int .i64 l1.s.jn, .int .i64 l1.s.mt, l1.s.dv, .int .i64 l1.s.ph, .int .i64 l1.s.fn, .int .i64 l1.s.fm.a, .int .i64 l1.s.fm.b, .int .i64 l1.s.fm.c, .int .i64 l1.s.fm.d, .int .i64 l1.s.fm.x, .int .i64 l1.s.fm.y, l1.s.cv, .bool l1.s.dk, .pointer (some ⟨l1.p, 0, none⟩)] := (by (repeat' (with_reducible first | assumption | (refine Row.at _ _ ?_; (simp; done)) | refine Row.alloc ?_ _ | refine Row.drew ?_ | refine Row.drewN ?_ _ | refine Row.other ?_ (by first | (simp; done) | (simp; omega) | omega) _ | refine Row.up ?_ (by assumption) | refine Row.chg ?_ (by assumption) (by first | (simp; done) | (simp; omega))))); have q29c := ((Up.alloc (Up.refl w1) (.cells #[.int .i64 l1.s.c.a, .int .i64 l1.s.c.b, .int .i64 l1.s.c.c, .int .i64 l1.s.c.d, .int .i64 l1.s.c.x, .int .i64 l1.s.c.y, .int .i64 l1.s.sp, .int .i64 l1.s.p0, .int .i64 l1.s.p1, .int .i64 l1.s.p2, .int .i64 l1.s.p3, .int .i64 l1.s.wd, .int .i64 l1.s.cap, .int .i64 l1.s.jn, .int .i64 l1.s.mt, l1.s.dv, .int .i64 l1.s.ph, .int .i64 l1.s.fn, .int .i64 l1.s.fm.a, .int .i64 l1.s.fm.b, .int .i64 l1.s.fm.c, .int .i64 l1.s.fm.d, .int .i64 l1.s.fm.x, .int .i64 l1.s.fm.y, l1.s.cv, .bool l1.s.dk, .pointer (some ⟨l1.p, 0, none⟩)] 67)).cells.1 g 29 lt1).trans q29b)
      refine hK.out _ _ ?_ (fun hHeld => ?_)
      · exact rng_part ((HR.out.up HU1.out).alloc _)
      clear hK K
      (try simp only [Act.put, lga, lgz, lgs, lsa, lsz, lss])
      refine wpAnyH_ready (rs := [4]) (by decide +kernel) (by simp) ?_
      refine AllReadyH.cons rfl (fun K hK => ?_) (AllReadyH.nil)
      (try simp only [lga, lgz, lgs])
      (go_simp)
      refine hK.out _ _ ?_ (fun hHeld => ?_)
      · (first | exact hHeld)
      clear hK K
      (try simp only [Act.put, lga, lgz, lgs, lsa, lsz, lss])
      refine wpAnyH_ready (rs := [11]) (by decide +kernel) (by simp) ?_
      refine AllReadyH.cons rfl (fun K hK => ?_) (AllReadyH.nil)
      (try simp only [lga, lgz, lgs])
      (rw [if_pos (by rfl)]; refine wp_append_lies _ (.tmp 21) (.tmp 27) 68 rfl 0 67 i0 _ 27 248 Tryd.underlying68 hi hz0 hz1 hz2 rfl (by decide) (.slice so n sc) n (x.saved.flatMap Lv.cells) rfl (raw_up (by have h9 := HG.out.own; rw [HSV.out, HN.out] at h9; exact h9) (show Up w _ from Up.alloc HU1.out _)) ⟨w1.heap.size, 0, none⟩ 1 1 l1.cells rfl rfl (news_at RN1 rfl) (Lv.one HO1.out.s) (by decide) (by unfold maxLen; omega) (by omega) (Nat.zero_le _) _ rfl ?_; intro g5 c5 w5 hown5 hgr5 hat5 hg5; have HC5 : Hid (Chg (own x.sv) (w1.alloc (.cells #[.int .i64 l1.s.c.a, .int .i64 l1.s.c.b, .int .i64 l1.s.c.c, .int .i64 l1.s.c.d, .int .i64 l1.s.c.x, .int .i64 l1.s.c.y, .int .i64 l1.s.sp, .int .i64 l1.s.p0, .int .i64 l1.s.p1, .int .i64 l1.s.p2, .int .i64 l1.s.p3, .int .i64 l1.s.wd, .int .i64 l1.s.cap, .int .i64 l1.s.jn, .int .i64 l1.s.mt, l1.s.dv, .int .i64 l1.s.ph, .int .i64 l1.s.fn, .int .i64 l1.s.fm.a, .int .i64 l1.s.fm.b, .int .i64 l1.s.fm.c, .int .i64 l1.s.fm.d, .int .i64 l1.s.fm.x, .int .i64 l1.s.fm.y, l1.s.cv, .bool l1.s.dk, .pointer (some ⟨l1.p, 0, none⟩)] 67)) w5) := Lib.hid (by rw [HSV.out]; exact Chg.grown (Chg.of_up (Up.refl _)) hgr5 (fun k hk => Or.inl (own_mem hk))); have HTO : Hid (To w (w5.setCell ⟨g, 29, none⟩ (.slice (some ⟨g5, 0, none⟩) (n + 1) c5)) g x (kept x l1 g5 n c5)) := Lib.hid (To.save HG.out HN.out HU1.out HO1.out HF1.out (Up.alloc (Up.refl w1) _) HC5.out hown5 (by rw [HSV.out]; exact hat5)); have RG5 : Row w5 g x.cells.toArray := ((HG.out.row.up HU1.out).alloc _).chg HC5.out (fun h2 => (List.nodup_cons.1 HG.out.nd).1 (List.mem_append_right _ (List.mem_append_left _ h2))); have q29d := RG5.cell 29 rfl; have f29d := RG5.free 29; have lt5 := RG5.lt; clear hown5 hgr5 hat5)
      refine hK.out _ _ ?_ (fun hHeld => ?_)
      · exact (by have h9 : Row w5 g (C ++ [Value.int .i64 x.most, Value.int .i64 x.segs, x.sv]).toArray := (by rw [← HC.out]; exact RG5); exact rng_part h9)
      clear hK K
      (try simp only [Act.put, lga, lgz, lgs, lsa, lsz, lss])
      refine wpAnyH_take (i := 12) (v := ?_) rfl (by decide +kernel) (by decide +kernel) (by decide +kernel) (fun _ _ _ h => h) (Or.inl ⟨by rfl, ?_⟩) (by assumption) ?_
      rotate_left
      · intro w2 hSw
        (try dsimp only at hSw)
        (try (obtain ⟨hs1, hs2⟩ := hSw))
        go_simp
        (try (with_reducible rfl))
      (try simp only [Act.put, lga, lgz, lgs, lsa, lsz, lss])
      refine wpAnyH_take (i := 13) (v := ?_) rfl (by decide +kernel) (by decide +kernel) (by decide +kernel) (fun _ _ _ h => h) (Or.inl ⟨by rfl, ?_⟩) (by assumption) ?_
      rotate_left
      · intro w2 hSw
        (try dsimp only at hSw)
        (try (obtain ⟨hs1, hs2⟩ := hSw))
        go_simp
        (try (with_reducible rfl))
      (try simp only [Act.put, lga, lgz, lgs, lsa, lsz, lss])
      refine wpAnyH_ready (rs := [14]) (by decide +kernel) (by simp) ?_
      refine AllReadyH.cons rfl (fun K hK => ?_) (AllReadyH.nil)
      (try simp only [lga, lgz, lgs])
      go_simp
      refine hK.out _ _ ?_ (fun hHeld => ?_)
      · exact rng_set29 hHeld (by rw [← HC.out]; rfl)
      clear hK K
      refine wpAnyH_done (by decide +kernel) ?_ _
      go_wp2
      go_ret
      exact ⟨rfl, l1, g5, c5, HD1.out, HT1.out, HTO.out⟩

end Go.Proofs.YtoflafbhfoncmaaDoor.Gt
end

section
namespace Go.Proofs.YtoflafbhfoncmaaDoor.Gt
open Go.ChangeShapes Go.WideShapes Go.ChangeAt Go.RowKit
open Go.Proofs.YtoflafbhfoncmaaDoor.FixM (fits)
open Go.Proofs.YtoflafbhfoncmaaDoor.MatM (M6)
open Go.Proofs.YtoflafbhfoncmaaDoor.PathM (Seg St Z segCells)
open Go.Proofs.YtoflafbhfoncmaaDoor.Path (own own_mem own_of PathIs Segs)
open Go.Proofs.YtoflafbhfoncmaaDoor.Pt (Clip clipCells Src)
set_option linter.unusedVariables false
set_option linter.unusedSimpArgs false

theorem rng_first {w : World} {gs n cap : Nat} {rest : List Lv} {first : Lv} (h : w.ownsRow 0 67 27 (.slice (some ⟨gs, 0, none⟩) n cap) n ((first :: rest).flatMap Lv.cells)) (hn : (first :: rest).length = n) : w.rangeAt gs 0 first.cells := fun j v hj => by
  have hl : j < 27 := (List.getElem?_eq_some_iff.1 hj).1
  rw [Nat.zero_add, h.cellAt j (by simp at hn; omega), List.flatMap_cons, List.getElem?_append_left (by rw [Lv.cells_len]; exact hl)]
  exact hj
/-- the states behind a RestoreAll -/
def allR (x : X) (l first : Lv) (gs cap : Nat) : X := ⟨l, x.most, x.segs, .slice (some ⟨gs, 0, none⟩) 1 cap, [first]⟩
theorem To.all {w w1 w2 : World} {g gs cap n : Nat} {x : X} {l first : Lv} {rest : List Lv} (h : G w g x) (hsv : x.sv = .slice (some ⟨gs, 0, none⟩) n cap) (hs : x.saved = first :: rest) (hn : (first :: rest).length = n) (hu : Up w w1) (ho : LO w1 l) (hf : ∀ b ∈ l.bl, w.heap.size ≤ b ∧ b < w1.heap.size)
    (hr : Row w2 g (allR x l first gs cap).cells.toArray) (hc : Chg [g] w1 w2) : To w w2 g x (allR x l first gs cap) := by
  have hlt := h.lt
  have hgb : g < w.heap.size := h.row.lt
  have nd := h.nd
  simp only [X.bl, X.low, hs, List.flatMap_cons] at nd
  obtain ⟨n1, n2⟩ := List.nodup_cons.1 nd
  obtain ⟨n3, n4, n5⟩ := List.nodup_append.1 n2
  obtain ⟨n6, n7, n8⟩ := List.nodup_append.1 n4
  obtain ⟨n9, n10, n11⟩ := List.nodup_append.1 n7
  have hch : Chg [g] w w2 := (Chg.of_up (S := [g]) hu).call hc (fun k hk => Or.inl hk)
  have hgs : gs ≠ g := fun e => n1 (List.mem_append_right _ (List.mem_append_left _ (own_mem (by rw [hsv, e]; rfl))))
  have e1 : own (.slice (some ⟨gs, 0, none⟩) 1 cap) = [gs] := rfl
  have e2 : own x.sv = [gs] := by rw [hsv]; rfl
  have hown := h.own
  rw [hsv, hs, hn] at hown
  refine ⟨⟨hr, ho.chg hc (fun b hb h2 => by rw [List.mem_singleton] at h2; subst h2; have := (hf b hb).1; omega), ?_, ?_, ?_⟩, (Chg.refl _ w).call hch (fun b hb => Or.inl (by rw [List.mem_singleton] at hb; subst hb; simp [X.bl])), ?_⟩
  · have h1 := owned_chg (owned_take hown (show 1 ≤ n by simp at hn; omega)) hch (fun b hb => by
      simp only [Value.ownBlock, Option.some.injEq] at hb
      subst hb
      simpa using hgs)
    have h2 : ((first :: rest).flatMap Lv.cells).take (1 * 27) = [first].flatMap Lv.cells := by
      rw [List.flatMap_cons, List.take_append_of_le_length (by rw [Lv.cells_len]; exact Nat.le_refl _), List.take_of_length_le (by rw [Lv.cells_len]; exact Nat.le_refl _)]
      simp
    rw [h2] at h1
    exact h1
  · intro l2 hl2
    have e : l2 = first := by simpa [allR] using hl2
    subst e
    exact (h.svs l2 (by rw [hs]; simp)).chg hch (fun b hb h2 => by
      rw [List.mem_singleton] at h2
      subst h2
      exact n1 (List.mem_append_right _ (List.mem_append_right _ (List.mem_append_left _ hb))))
  · simp only [X.bl, X.low, allR, e1, List.flatMap_cons, List.flatMap_nil, List.append_nil]
    have fl : ∀ b ∈ gs :: first.bl, b < w.heap.size := fun b hb => hlt b (by
      simp only [X.bl, X.low, hs, e2, List.flatMap_cons, List.mem_cons, List.mem_append] at hb ⊢
      rcases hb with h1 | h1
      · exact Or.inr (Or.inr (Or.inl (Or.inl h1)))
      · exact Or.inr (Or.inr (Or.inr (Or.inl h1))))
    refine List.nodup_cons.2 ⟨fun hm => ?_, List.nodup_append.2 ⟨ho.nd, List.nodup_append.2 ⟨by simp, n9, ?_⟩, ?_⟩⟩
    · simp only [List.mem_append, List.mem_singleton] at hm
      rcases hm with h1 | h1 | h1
      · have := (hf g h1).1; omega
      · exact hgs h1.symm
      · exact n1 (List.mem_append_right _ (List.mem_append_right _ (List.mem_append_left _ h1)))
    · intro a ha b hb e
      rw [List.mem_singleton] at ha
      subst ha e
      exact n8 a (by rw [e2]; simp) a (List.mem_append_left _ hb) rfl
    · intro a ha b hb e
      subst e
      have := (hf a ha).1
      have := fl a (by simpa using hb)
      omega
  · intro b hb
    simp only [X.bl, X.low, allR, e1, e2, hs, List.flatMap_cons, List.flatMap_nil, List.append_nil, List.mem_cons, List.mem_append, List.not_mem_nil, or_false] at hb ⊢
    rcases hb with h1 | h1 | h1 | h1
    · exact Or.inl (Or.inl h1)
    · exact Or.inr (hf b h1).1
    · exact Or.inl (Or.inr (Or.inr (Or.inl h1)))
    · exact Or.inl (Or.inr (Or.inr (Or.inr (Or.inl h1))))
set_option maxRecDepth 8000 in
set_option maxHeartbeats 2000000 in
theorem restoreAll_some (g : Nat) (x : X) (gs n cap : Nat) (first : Lv) (tl : List Lv) (w : World) (h : G w g x) (hsv : x.sv = .slice (some ⟨gs, 0, none⟩) n cap) (hs : x.saved = first :: tl) (hn : (first :: tl).length = n) (hl : Le first.s.dat) :
    Calls Tryd.prog 23 #[.pointer (some ⟨g, 0, none⟩)] w fun E w' => E = .returned (.tuple #[]) ∧ ∃ l, l.s.dat = first.s.dat ∧ l.t = first.t ∧ To w w' g x (allR x l first gs cap) := by
  have HG := Lib.hid h
  have HSV := Lib.hid hsv
  have HS := Lib.hid hs
  have HN := Lib.hid hn
  have HL := Lib.hid hl
  have HO : Hid (w.ownsRow 0 67 27 (.slice (some ⟨gs, 0, none⟩) n cap) n ((first :: tl).flatMap Lv.cells)) := Lib.hid (by have := h.own; rwa [hsv, hs, hn] at this)
  have HF : Hid (LO w first) := Lib.hid (h.svs first (by rw [hs]; simp))
  have lt := h.row.lt
  have lgs : gs < w.heap.size := (HO.out.lt gs rfl).2
  have q29 : w.cell? ⟨g, 29, none⟩ = some (.slice (some ⟨gs, 0, none⟩) n cap) := by rw [← hsv]; exact h.row.cell 29 rfl
  have n0 : 0 < n := by simp at hn; omega
  have nd0 : decide (0 < n) = true := decide_eq_true n0
  have n1 : (1 : Int) ≤ (n : Int) := by omega
  have hcl : n ≤ cap := by
    rcases HO.out.2 with ⟨h1, _⟩ | ⟨_, _, _, h1, _, _, h2, _⟩
    · cases h1
    · injection h1 with _ _ h1; omega
  have hcl1 : 1 ≤ cap := by omega
  obtain ⟨C, hC⟩ : ∃ C, first.cells = C := ⟨_, rfl⟩
  have HC := Lib.hid hC
  clear h hsv hs hn hl hC
  go_enter Tryd.func23, Tryd.ntmps23
  go_wp2_with (first
    | (go_at_call 12; ((with_reducible refine (Gs.depth_calls g (some ⟨gs, 0, none⟩) n cap _ q29).mono ?_); rintro E w0 ⟨rfl, rfl⟩))
    | (refine wpList_load_mid rfl 67 (.tmp 10) rfl gs 0 (by first | rfl | simp) C _ (by rw [← HC.out]; exact rng_first HO.out HN.out) Tryd.underlying67 rfl (by rw [← HC.out]; exact infoLv) ?_)
    | (go_at_call 40; ((refine Calls.mono (show Calls _ _ #[.agg C.toArray] _ _ from (by rw [← HC.out]; exact copied_L first _ HF.out HL.out)) ?_); rintro E w1 ⟨l1, rfl, hd1, ht1, ho1, hf1, hu1⟩; have z1 := hu1.size; have HD1 := Lib.hid hd1; have HT1 := Lib.hid ht1; have HO1 := Lib.hid ho1; have HF1 := Lib.hid hf1; have HU1 := Lib.hid hu1; obtain ⟨C1, hC1⟩ : ∃ C1, l1.cells = C1 := ⟨_, rfl⟩; have HC1 := Lib.hid hC1; rw [hC1]; have lt1 : g < w1.heap.size := Nat.lt_of_lt_of_le lt z1; clear hd1 ht1 ho1 hf1 hC1))
    | (refine wpList_store_part rfl 67 (.tmp 14) (.tmp 12) rfl g C1 x.l.cells [Value.int .i64 x.most, Value.int .i64 x.segs, x.sv] rfl (by first | rfl | simp) (HG.out.rowL.up HU1.out) (by rw [← HC1.out]; rfl) infoLv (by rw [← HC1.out]; rfl) (by rw [← HC1.out]; exact Lv.one HO1.out.s) ?_; intro w2 hr2 hc2; have l2 := hr2.lt; have HR2 := Lib.hid hr2; have HC2 := Lib.hid hc2; have r29 : w2.cell? ⟨g, 29, none⟩ = some (.slice (some ⟨gs, 0, none⟩) n cap) := (by rw [← HC1.out, HSV.out] at hr2; exact hr2.cell 29 rfl); have f29 := hr2.free 29; clear hr2 hc2))
  go_returns
  refine ⟨rfl, l1, HD1.out, HT1.out, To.all HG.out HSV.out HS.out HN.out HU1.out HO1.out HF1.out ?_ (HC2.out.setCell (Or.inl (by simp)) _)⟩
  have h2 := HR2.out
  rw [← HC1.out] at h2
  exact cast (Row.set h2 29 _) rfl
set_option maxRecDepth 8000 in
theorem restoreAll_none (g : Nat) (x : X) (so : Option Addr) (cap : Nat) (w : World) (h : G w g x) (hsv : x.sv = .slice so 0 cap) :
    Calls Tryd.prog 23 #[.pointer (some ⟨g, 0, none⟩)] w fun E w' => E = .returned (.tuple #[]) ∧ w = w' := by
  have q29 : w.cell? ⟨g, 29, none⟩ = some (.slice so 0 cap) := by rw [← hsv]; exact h.row.cell 29 rfl
  clear h hsv
  go_enter Tryd.func23, Tryd.ntmps23
  go_wp2_with (go_at_call 12; ((with_reducible refine (Gs.depth_calls g so 0 cap _ q29).mono ?_); rintro E w0 ⟨rfl, rfl⟩))
  go_returns
  exact ⟨rfl, rfl⟩

end Go.Proofs.YtoflafbhfoncmaaDoor.Gt
end
