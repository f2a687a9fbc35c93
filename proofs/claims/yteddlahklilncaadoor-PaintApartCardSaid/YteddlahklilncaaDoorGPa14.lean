/- PaintApart, walked. Its condition: the fonts' names lie as they are laid. -/
import Derived.Test.YteddlahklilncaaDoorGB
import Derived.Test.YteddlahklilncaaDoorGPt7
import Derived.Deep.RegionHeld3
import Derived.Deep.RegionLaw
import Derived.Deep.MidRow
namespace Go.Proofs.YteddlahklilncaaDoor.Pt
open List renaming getElem_toArray → lga, getElem_cons_zero → lgz, getElem_cons_succ → lgs, setIfInBounds_toArray → lsa, set_cons_zero → lsz, set_cons_succ → lss
open Go.ChangeShapes Go.WideShapes Go.ChangeAt Go.RowKit
open Go.Proofs.YteddlahklilncaaDoor.FixM (fits)
open Go.Proofs.YteddlahklilncaaDoor.PathM (Seg sound)
open Go.Proofs.YteddlahklilncaaDoor.MatM (M6)
set_option linter.unusedVariables false
set_option linter.unusedSimpArgs false
open Go.Proofs.YteddlahklilncaaDoor.PathM (segCells)

theorem wpList_load_RowG {ops : Array Oper} {rest : List Oper} {o : Oper} {a : Act} {w : World} {Q : Exit → Act → World → Prop} (ty : TypeId) (x : Operand) (ho : o.op = .load ty x) (hw : Region.wanted o (yielded ops a.tmps) = true)
    (b : Nat) (hx : a.eval x = .pointer (some ⟨b, 0, none⟩)) (cs : Array Value) (h : Row w b cs) (d : TypeDesc) (hu : Tryd.prog.underlying ty = some d) (hd : d.isRow = true) {n : Nat} (hi : (Tryd.prog.info? ty).map (·.size) = some n) (hs : cs.size = n)
    (hk : wpList Tryd.prog ops Q rest (a.put o.dst (.agg cs)) w) : wpList Tryd.prog ops Q (o :: rest) a w :=
  wpList_step fun K hK => by
    rw [if_pos hw]
    exact wp_load_mid ty x ho b 0 hx cs.toList d (rng0 h) hu hd (by rw [Array.length_toList, hs]; exact hi) (by rw [Array.toArray_toList]; exact hK _ _ hk)
theorem wp_load_midG {op : Oper} {a : Act} {w : World} {K : Act → World → Prop} {Q : Exit → Act → World → Prop} (i : Item) (b : Nat) (x : Operand) (ho : op.op = .load 36 x) (hx : a.eval x = .pointer (some ⟨b, 0, none⟩)) (hc : w.rangeAt b 0 i.cells.toArray.toList)
    (h : K (a.put op.dst (.agg i.cells.toArray)) w) : op.wp Tryd.prog a w K Q := wp_load_mid 36 x ho b 0 hx i.cells _ hc Tryd.underlying36 rfl infoItem h
theorem wpList_load_midG {ops : Array Oper} {rest : List Oper} {o : Oper} {a : Act} {w : World} {Q : Exit → Act → World → Prop} (i : Item) (b : Nat) (x : Operand) (ho : o.op = .load 36 x) (hw : Region.wanted o (yielded ops a.tmps) = true) (hx : a.eval x = .pointer (some ⟨b, 0, none⟩)) (hc : w.rangeAt b 0 i.cells.toArray.toList)
    (hk : wpList Tryd.prog ops Q rest (a.put o.dst (.agg i.cells.toArray)) w) : wpList Tryd.prog ops Q (o :: rest) a w :=
  wpList_step fun K hK => by
    rw [if_pos hw]
    exact wp_load_midG i b x ho hx hc (hK _ _ hk)

set_option maxRecDepth 16000 in
set_option maxHeartbeats 8000000 in
theorem apart_dark (k : Int) (pa : Option Addr) (pl pc : Nat) (sp p0 p1 p2 p3 : Int) (ca : Option Addr) (cl cc : Nat) (wd cp jn mt : Int) (da : Option Addr) (dl dc : Nat) (ph fn : Int) (m : M6) (ba : Option Addr) (bl bc : Nat) (l : List Seg) (cs : List Clip) (ds bs : List Int) (w : World) (h : Item.is w ⟨k, .slice pa pl pc, l, sp, p0, p1, p2, p3, .slice ca cl cc, cs, wd, cp, jn, mt, .slice da dl dc, ds, ph, fn, m, .slice ba bl bc, bs⟩) (hA : ItemA w ⟨k, .slice pa pl pc, l, sp, p0, p1, p2, p3, .slice ca cl cc, cs, wd, cp, jn, mt, .slice da dl dc, ds, ph, fn, m, .slice ba bl bc, bs⟩) (hli : Lists w pa pl pc ca cl cc da dl dc ba bl bc l cs ds bs) (hT : Font.Tab w) (hL : lightR pl bl cl dl = false) : Calls Tryd.prog 4 #[.agg #[.int .i64 k, .slice pa pl pc, .int .i64 sp, .int .i64 p0, .int .i64 p1, .int .i64 p2, .int .i64 p3, .slice ca cl cc, .int .i64 wd, .int .i64 cp, .int .i64 jn, .int .i64 mt, .slice da dl dc, .int .i64 ph, .int .i64 fn, .int .i64 m.a, .int .i64 m.b, .int .i64 m.c, .int .i64 m.d, .int .i64 m.x, .int .i64 m.y, .slice ba bl bc]] w fun E w' => E = .returned (.bool true) ∧ Up w w' := by
  have HLT := Lib.hid hL
  clear h hA hli hT hL
  go_enter Tryd.func4, Tryd.ntmps4
  go_wp2_with (first
    | (go_at_call 8; ((with_reducible refine (new_calls 65536 65536 2 (by decide) (by decide) (by decide) (by decide) _).mono ?_); rintro E w1 ⟨c, rfl, hcc, hr1, hu1⟩; have z1 := hu1.size; (try simp at z1); (try simp at hcc); have HR1 := Lib.hid hr1; have HC := Lib.hid hcc; have lc := hr1.lt; have RB1 : Row w1 w.heap.size #[.int .i64 k, .slice pa pl pc, .int .i64 sp, .int .i64 p0, .int .i64 p1, .int .i64 p2, .int .i64 p3, .slice ca cl cc, .int .i64 wd, .int .i64 cp, .int .i64 jn, .int .i64 mt, .slice da dl dc, .int .i64 ph, .int .i64 fn, .int .i64 m.a, .int .i64 m.b, .int .i64 m.c, .int .i64 m.d, .int .i64 m.x, .int .i64 m.y, .slice ba bl bc] := Row.up (show Row _ w.heap.size #[.int .i64 k, .slice pa pl pc, .int .i64 sp, .int .i64 p0, .int .i64 p1, .int .i64 p2, .int .i64 p3, .slice ca cl cc, .int .i64 wd, .int .i64 cp, .int .i64 jn, .int .i64 mt, .slice da dl dc, .int .i64 ph, .int .i64 fn, .int .i64 m.a, .int .i64 m.b, .int .i64 m.c, .int .i64 m.d, .int .i64 m.x, .int .i64 m.y, .slice ba bl bc] by (repeat' (with_reducible first | assumption | (refine Row.at _ _ ?_; (simp; done)) | refine Row.alloc ?_ _ | refine Row.drew ?_ | refine Row.drewN ?_ _ | refine Row.other ?_ (by first | (simp; done) | (simp; omega) | omega) _ | refine Row.up ?_ (by assumption) | refine Row.chg ?_ (by assumption) (by first | (simp; done) | (simp; omega))))) hu1; clear hr1))
    | (go_at_call 5; ((have hprev := RB3); (with_reducible refine (answers_calls _).mono ?_); rintro E w5 ⟨rfl, hu5⟩))
    | (go_at_call 5; ((with_reducible refine (answers_calls _).mono ?_); rintro E w2 ⟨rfl, hu2⟩; have z2 := hu2.size; have RB2 : Row w2 w.heap.size #[.int .i64 k, .slice pa pl pc, .int .i64 sp, .int .i64 p0, .int .i64 p1, .int .i64 p2, .int .i64 p3, .slice ca cl cc, .int .i64 wd, .int .i64 cp, .int .i64 jn, .int .i64 mt, .slice da dl dc, .int .i64 ph, .int .i64 fn, .int .i64 m.a, .int .i64 m.b, .int .i64 m.c, .int .i64 m.d, .int .i64 m.x, .int .i64 m.y, .slice ba bl bc] := Row.up (show Row _ w.heap.size #[.int .i64 k, .slice pa pl pc, .int .i64 sp, .int .i64 p0, .int .i64 p1, .int .i64 p2, .int .i64 p3, .slice ca cl cc, .int .i64 wd, .int .i64 cp, .int .i64 jn, .int .i64 mt, .slice da dl dc, .int .i64 ph, .int .i64 fn, .int .i64 m.a, .int .i64 m.b, .int .i64 m.c, .int .i64 m.d, .int .i64 m.x, .int .i64 m.y, .slice ba bl bc] by (repeat' (with_reducible first | assumption | (refine Row.at _ _ ?_; (simp; done)) | refine Row.alloc ?_ _ | refine Row.drew ?_ | refine Row.drewN ?_ _ | refine Row.other ?_ (by first | (simp; done) | (simp; omega) | omega) _ | refine Row.up ?_ (by assumption) | refine Row.chg ?_ (by assumption) (by first | (simp; done) | (simp; omega))))) hu2))
    | (go_at_call 9; ((with_reducible refine (light_calls k sp p0 p1 p2 p3 wd cp jn mt ph fn m pa ca da ba pl pc cl cc dl dc bl bc _).mono ?_); rw [HLT.out]; rintro E w3 ⟨rfl, hu3⟩; have z3 := hu3.size; have RB3 : Row w3 w.heap.size #[.int .i64 k, .slice pa pl pc, .int .i64 sp, .int .i64 p0, .int .i64 p1, .int .i64 p2, .int .i64 p3, .slice ca cl cc, .int .i64 wd, .int .i64 cp, .int .i64 jn, .int .i64 mt, .slice da dl dc, .int .i64 ph, .int .i64 fn, .int .i64 m.a, .int .i64 m.b, .int .i64 m.c, .int .i64 m.d, .int .i64 m.x, .int .i64 m.y, .slice ba bl bc] := Row.up (show Row _ w.heap.size #[.int .i64 k, .slice pa pl pc, .int .i64 sp, .int .i64 p0, .int .i64 p1, .int .i64 p2, .int .i64 p3, .slice ca cl cc, .int .i64 wd, .int .i64 cp, .int .i64 jn, .int .i64 mt, .slice da dl dc, .int .i64 ph, .int .i64 fn, .int .i64 m.a, .int .i64 m.b, .int .i64 m.c, .int .i64 m.d, .int .i64 m.x, .int .i64 m.y, .slice ba bl bc] by (repeat' (with_reducible first | assumption | (refine Row.at _ _ ?_; (simp; done)) | refine Row.alloc ?_ _ | refine Row.drew ?_ | refine Row.drewN ?_ _ | refine Row.other ?_ (by first | (simp; done) | (simp; omega) | omega) _ | refine Row.up ?_ (by assumption) | refine Row.chg ?_ (by assumption) (by first | (simp; done) | (simp; omega))))) hu3))
    | (refine wpList_load_RowG 36 (.tmp 1) rfl (by rfl) w.heap.size rfl #[.int .i64 k, .slice pa pl pc, .int .i64 sp, .int .i64 p0, .int .i64 p1, .int .i64 p2, .int .i64 p3, .slice ca cl cc, .int .i64 wd, .int .i64 cp, .int .i64 jn, .int .i64 mt, .slice da dl dc, .int .i64 ph, .int .i64 fn, .int .i64 m.a, .int .i64 m.b, .int .i64 m.c, .int .i64 m.d, .int .i64 m.x, .int .i64 m.y, .slice ba bl bc] (by (repeat' (with_reducible first | assumption | (refine Row.at _ _ ?_; (simp; done)) | refine Row.alloc ?_ _ | refine Row.drew ?_ | refine Row.drewN ?_ _ | refine Row.other ?_ (by first | (simp; done) | (simp; omega) | omega) _ | refine Row.up ?_ (by assumption) | refine Row.chg ?_ (by assumption) (by first | (simp; done) | (simp; omega))))) _ Tryd.underlying36 rfl infoItem rfl ?_))
  go_ret
  exact ⟨rfl, by (repeat' (first | (with_reducible first | exact Up.refl _ | assumption | refine Up.alloc ?_ _ | refine Up.drew ?_ | refine Up.drewN ?_ _ | refine Up.setCell ?_ ?_ _ | refine Up.call ?_ (by assumption)) | go_size))⟩

set_option maxRecDepth 16000 in
set_option maxHeartbeats 8000000 in
theorem apart_bad (k : Int) (pa : Option Addr) (pl pc : Nat) (sp p0 p1 p2 p3 : Int) (ca : Option Addr) (cl cc : Nat) (wd cp jn mt : Int) (da : Option Addr) (dl dc : Nat) (ph fn : Int) (m : M6) (ba : Option Addr) (bl bc : Nat) (l : List Seg) (cs : List Clip) (ds bs : List Int) (w : World) (h : Item.is w ⟨k, .slice pa pl pc, l, sp, p0, p1, p2, p3, .slice ca cl cc, cs, wd, cp, jn, mt, .slice da dl dc, ds, ph, fn, m, .slice ba bl bc, bs⟩) (hA : ItemA w ⟨k, .slice pa pl pc, l, sp, p0, p1, p2, p3, .slice ca cl cc, cs, wd, cp, jn, mt, .slice da dl dc, ds, ph, fn, m, .slice ba bl bc, bs⟩) (hli : Lists w pa pl pc ca cl cc da dl dc ba bl bc l cs ds bs) (hT : Font.Tab w) (hL : lightR pl bl cl dl = true) (hok : itemR ⟨k, .slice pa pl pc, l, sp, p0, p1, p2, p3, .slice ca cl cc, cs, wd, cp, jn, mt, .slice da dl dc, ds, ph, fn, m, .slice ba bl bc, bs⟩ = false) : Calls Tryd.prog 4 #[.agg #[.int .i64 k, .slice pa pl pc, .int .i64 sp, .int .i64 p0, .int .i64 p1, .int .i64 p2, .int .i64 p3, .slice ca cl cc, .int .i64 wd, .int .i64 cp, .int .i64 jn, .int .i64 mt, .slice da dl dc, .int .i64 ph, .int .i64 fn, .int .i64 m.a, .int .i64 m.b, .int .i64 m.c, .int .i64 m.d, .int .i64 m.x, .int .i64 m.y, .slice ba bl bc]] w fun E w' => E = .returned (.bool true) ∧ Up w w' := by
  have HLT := Lib.hid hL
  have HLI := Lib.hid hli
  have HOK := Lib.hid ((itemR_eq k pa pl pc sp p0 p1 p2 p3 ca cl cc wd cp jn mt da dl dc ph fn m ba bl bc l cs ds bs hli).symm.trans hok)
  clear h hA hli hT hL hok
  go_enter Tryd.func4, Tryd.ntmps4
  go_wp2_with (first
    | (go_at_call 8; ((with_reducible refine (new_calls 65536 65536 2 (by decide) (by decide) (by decide) (by decide) _).mono ?_); rintro E w1 ⟨c, rfl, hcc, hr1, hu1⟩; have z1 := hu1.size; (try simp at z1); (try simp at hcc); have HR1 := Lib.hid hr1; have HC := Lib.hid hcc; have lc := hr1.lt; have RB1 : Row w1 w.heap.size #[.int .i64 k, .slice pa pl pc, .int .i64 sp, .int .i64 p0, .int .i64 p1, .int .i64 p2, .int .i64 p3, .slice ca cl cc, .int .i64 wd, .int .i64 cp, .int .i64 jn, .int .i64 mt, .slice da dl dc, .int .i64 ph, .int .i64 fn, .int .i64 m.a, .int .i64 m.b, .int .i64 m.c, .int .i64 m.d, .int .i64 m.x, .int .i64 m.y, .slice ba bl bc] := Row.up (show Row _ w.heap.size #[.int .i64 k, .slice pa pl pc, .int .i64 sp, .int .i64 p0, .int .i64 p1, .int .i64 p2, .int .i64 p3, .slice ca cl cc, .int .i64 wd, .int .i64 cp, .int .i64 jn, .int .i64 mt, .slice da dl dc, .int .i64 ph, .int .i64 fn, .int .i64 m.a, .int .i64 m.b, .int .i64 m.c, .int .i64 m.d, .int .i64 m.x, .int .i64 m.y, .slice ba bl bc] by (repeat' (with_reducible first | assumption | (refine Row.at _ _ ?_; (simp; done)) | refine Row.alloc ?_ _ | refine Row.drew ?_ | refine Row.drewN ?_ _ | refine Row.other ?_ (by first | (simp; done) | (simp; omega) | omega) _ | refine Row.up ?_ (by assumption) | refine Row.chg ?_ (by assumption) (by first | (simp; done) | (simp; omega))))) hu1; clear hr1))
    | (go_at_call 5; ((have hprev := RB4); (with_reducible refine (answers_calls _).mono ?_); rintro E w5 ⟨rfl, hu5⟩))
    | (go_at_call 5; ((with_reducible refine (answers_calls _).mono ?_); rintro E w2 ⟨rfl, hu2⟩; have z2 := hu2.size; have RB2 : Row w2 w.heap.size #[.int .i64 k, .slice pa pl pc, .int .i64 sp, .int .i64 p0, .int .i64 p1, .int .i64 p2, .int .i64 p3, .slice ca cl cc, .int .i64 wd, .int .i64 cp, .int .i64 jn, .int .i64 mt, .slice da dl dc, .int .i64 ph, .int .i64 fn, .int .i64 m.a, .int .i64 m.b, .int .i64 m.c, .int .i64 m.d, .int .i64 m.x, .int .i64 m.y, .slice ba bl bc] := Row.up (show Row _ w.heap.size #[.int .i64 k, .slice pa pl pc, .int .i64 sp, .int .i64 p0, .int .i64 p1, .int .i64 p2, .int .i64 p3, .slice ca cl cc, .int .i64 wd, .int .i64 cp, .int .i64 jn, .int .i64 mt, .slice da dl dc, .int .i64 ph, .int .i64 fn, .int .i64 m.a, .int .i64 m.b, .int .i64 m.c, .int .i64 m.d, .int .i64 m.x, .int .i64 m.y, .slice ba bl bc] by (repeat' (with_reducible first | assumption | (refine Row.at _ _ ?_; (simp; done)) | refine Row.alloc ?_ _ | refine Row.drew ?_ | refine Row.drewN ?_ _ | refine Row.other ?_ (by first | (simp; done) | (simp; omega) | omega) _ | refine Row.up ?_ (by assumption) | refine Row.chg ?_ (by assumption) (by first | (simp; done) | (simp; omega))))) hu2))
    | (go_at_call 9; ((with_reducible refine (light_calls k sp p0 p1 p2 p3 wd cp jn mt ph fn m pa ca da ba pl pc cl cc dl dc bl bc _).mono ?_); rw [HLT.out]; rintro E w3 ⟨rfl, hu3⟩; have z3 := hu3.size; have RB3 : Row w3 w.heap.size #[.int .i64 k, .slice pa pl pc, .int .i64 sp, .int .i64 p0, .int .i64 p1, .int .i64 p2, .int .i64 p3, .slice ca cl cc, .int .i64 wd, .int .i64 cp, .int .i64 jn, .int .i64 mt, .slice da dl dc, .int .i64 ph, .int .i64 fn, .int .i64 m.a, .int .i64 m.b, .int .i64 m.c, .int .i64 m.d, .int .i64 m.x, .int .i64 m.y, .slice ba bl bc] := Row.up (show Row _ w.heap.size #[.int .i64 k, .slice pa pl pc, .int .i64 sp, .int .i64 p0, .int .i64 p1, .int .i64 p2, .int .i64 p3, .slice ca cl cc, .int .i64 wd, .int .i64 cp, .int .i64 jn, .int .i64 mt, .slice da dl dc, .int .i64 ph, .int .i64 fn, .int .i64 m.a, .int .i64 m.b, .int .i64 m.c, .int .i64 m.d, .int .i64 m.x, .int .i64 m.y, .slice ba bl bc] by (repeat' (with_reducible first | assumption | (refine Row.at _ _ ?_; (simp; done)) | refine Row.alloc ?_ _ | refine Row.drew ?_ | refine Row.drewN ?_ _ | refine Row.other ?_ (by first | (simp; done) | (simp; omega) | omega) _ | refine Row.up ?_ (by assumption) | refine Row.chg ?_ (by assumption) (by first | (simp; done) | (simp; omega))))) hu3))
    | (go_at_call 10; ((with_reducible refine (soundItem_calls k pa pl pc sp p0 p1 p2 p3 ca cl cc wd cp jn mt da dl dc ph fn m ba bl bc l cs ds bs _ _ _ _ _ _ _ _ (HLI.out.up (by (repeat' (first | (with_reducible first | exact Up.refl _ | assumption | refine Up.alloc ?_ _ | refine Up.drew ?_ | refine Up.drewN ?_ _ | refine Up.setCell ?_ ?_ _ | refine Up.call ?_ (by assumption)) | go_size)))) rfl rfl rfl rfl rfl rfl rfl).mono ?_); rw [HOK.out]; rintro E w4 ⟨rfl, hu4⟩; have z4 := hu4.size; have RB4 : Row w4 w.heap.size #[.int .i64 k, .slice pa pl pc, .int .i64 sp, .int .i64 p0, .int .i64 p1, .int .i64 p2, .int .i64 p3, .slice ca cl cc, .int .i64 wd, .int .i64 cp, .int .i64 jn, .int .i64 mt, .slice da dl dc, .int .i64 ph, .int .i64 fn, .int .i64 m.a, .int .i64 m.b, .int .i64 m.c, .int .i64 m.d, .int .i64 m.x, .int .i64 m.y, .slice ba bl bc] := Row.up (show Row _ w.heap.size #[.int .i64 k, .slice pa pl pc, .int .i64 sp, .int .i64 p0, .int .i64 p1, .int .i64 p2, .int .i64 p3, .slice ca cl cc, .int .i64 wd, .int .i64 cp, .int .i64 jn, .int .i64 mt, .slice da dl dc, .int .i64 ph, .int .i64 fn, .int .i64 m.a, .int .i64 m.b, .int .i64 m.c, .int .i64 m.d, .int .i64 m.x, .int .i64 m.y, .slice ba bl bc] by (repeat' (with_reducible first | assumption | (refine Row.at _ _ ?_; (simp; done)) | refine Row.alloc ?_ _ | refine Row.drew ?_ | refine Row.drewN ?_ _ | refine Row.other ?_ (by first | (simp; done) | (simp; omega) | omega) _ | refine Row.up ?_ (by assumption) | refine Row.chg ?_ (by assumption) (by first | (simp; done) | (simp; omega))))) hu4))
    | (refine wpList_load_RowG 36 (.tmp 1) rfl (by rfl) w.heap.size rfl #[.int .i64 k, .slice pa pl pc, .int .i64 sp, .int .i64 p0, .int .i64 p1, .int .i64 p2, .int .i64 p3, .slice ca cl cc, .int .i64 wd, .int .i64 cp, .int .i64 jn, .int .i64 mt, .slice da dl dc, .int .i64 ph, .int .i64 fn, .int .i64 m.a, .int .i64 m.b, .int .i64 m.c, .int .i64 m.d, .int .i64 m.x, .int .i64 m.y, .slice ba bl bc] (by (repeat' (with_reducible first | assumption | (refine Row.at _ _ ?_; (simp; done)) | refine Row.alloc ?_ _ | refine Row.drew ?_ | refine Row.drewN ?_ _ | refine Row.other ?_ (by first | (simp; done) | (simp; omega) | omega) _ | refine Row.up ?_ (by assumption) | refine Row.chg ?_ (by assumption) (by first | (simp; done) | (simp; omega))))) _ Tryd.underlying36 rfl infoItem rfl ?_))
  go_ret
  exact ⟨rfl, by (repeat' (first | (with_reducible first | exact Up.refl _ | assumption | refine Up.alloc ?_ _ | refine Up.drew ?_ | refine Up.drewN ?_ _ | refine Up.setCell ?_ ?_ _ | refine Up.call ?_ (by assumption)) | go_size))⟩

set_option maxRecDepth 16000 in
set_option maxHeartbeats 8000000 in
theorem apart_ok (k : Int) (pa : Option Addr) (pl pc : Nat) (sp p0 p1 p2 p3 : Int) (ca : Option Addr) (cl cc : Nat) (wd cp jn mt : Int) (da : Option Addr) (dl dc : Nat) (ph fn : Int) (m : M6) (ba : Option Addr) (bl bc : Nat) (l : List Seg) (cs : List Clip) (ds bs : List Int) (w : World) (h : Item.is w ⟨k, .slice pa pl pc, l, sp, p0, p1, p2, p3, .slice ca cl cc, cs, wd, cp, jn, mt, .slice da dl dc, ds, ph, fn, m, .slice ba bl bc, bs⟩) (hA : ItemA w ⟨k, .slice pa pl pc, l, sp, p0, p1, p2, p3, .slice ca cl cc, cs, wd, cp, jn, mt, .slice da dl dc, ds, ph, fn, m, .slice ba bl bc, bs⟩) (hli : Lists w pa pl pc ca cl cc da dl dc ba bl bc l cs ds bs) (hT : Font.Tab w) (hL : lightR pl bl cl dl = true) (hok : itemR ⟨k, .slice pa pl pc, l, sp, p0, p1, p2, p3, .slice ca cl cc, cs, wd, cp, jn, mt, .slice da dl dc, ds, ph, fn, m, .slice ba bl bc, bs⟩ = true) (hlen : Lens (Item.dat ⟨k, .slice pa pl pc, l, sp, p0, p1, p2, p3, .slice ca cl cc, cs, wd, cp, jn, mt, .slice da dl dc, ds, ph, fn, m, .slice ba bl bc, bs⟩)) : Calls Tryd.prog 4 #[.agg #[.int .i64 k, .slice pa pl pc, .int .i64 sp, .int .i64 p0, .int .i64 p1, .int .i64 p2, .int .i64 p3, .slice ca cl cc, .int .i64 wd, .int .i64 cp, .int .i64 jn, .int .i64 mt, .slice da dl dc, .int .i64 ph, .int .i64 fn, .int .i64 m.a, .int .i64 m.b, .int .i64 m.c, .int .i64 m.d, .int .i64 m.x, .int .i64 m.y, .slice ba bl bc]] w fun E w' => E = .returned (.bool true) ∧ Up w w' := by
  have HLT := Lib.hid hL
  have HLI := Lib.hid hli
  have HI := Lib.hid h
  have HA := Lib.hid hA
  have HT := Lib.hid hT
  have HL := Lib.hid hlen
  have HK := Lib.hid hok
  have HOK := Lib.hid ((itemR_eq k pa pl pc sp p0 p1 p2 p3 ca cl cc wd cp jn mt da dl dc ph fn m ba bl bc l cs ds bs hli).symm.trans hok)
  clear h hA hli hT hL hok hlen
  go_enter Tryd.func4, Tryd.ntmps4
  go_wp2_with (first
    | (go_at_call 8; ((with_reducible refine (new_calls 65536 65536 2 (by decide) (by decide) (by decide) (by decide) _).mono ?_); rintro E w1 ⟨c, rfl, hcc, hr1, hu1⟩; have z1 := hu1.size; (try simp at z1); (try simp at hcc); have HR1 := Lib.hid hr1; have HC := Lib.hid hcc; have lc := hr1.lt; have RB1 : Row w1 w.heap.size #[.int .i64 k, .slice pa pl pc, .int .i64 sp, .int .i64 p0, .int .i64 p1, .int .i64 p2, .int .i64 p3, .slice ca cl cc, .int .i64 wd, .int .i64 cp, .int .i64 jn, .int .i64 mt, .slice da dl dc, .int .i64 ph, .int .i64 fn, .int .i64 m.a, .int .i64 m.b, .int .i64 m.c, .int .i64 m.d, .int .i64 m.x, .int .i64 m.y, .slice ba bl bc] := Row.up (show Row _ w.heap.size #[.int .i64 k, .slice pa pl pc, .int .i64 sp, .int .i64 p0, .int .i64 p1, .int .i64 p2, .int .i64 p3, .slice ca cl cc, .int .i64 wd, .int .i64 cp, .int .i64 jn, .int .i64 mt, .slice da dl dc, .int .i64 ph, .int .i64 fn, .int .i64 m.a, .int .i64 m.b, .int .i64 m.c, .int .i64 m.d, .int .i64 m.x, .int .i64 m.y, .slice ba bl bc] by (repeat' (with_reducible first | assumption | (refine Row.at _ _ ?_; (simp; done)) | refine Row.alloc ?_ _ | refine Row.drew ?_ | refine Row.drewN ?_ _ | refine Row.other ?_ (by first | (simp; done) | (simp; omega) | omega) _ | refine Row.up ?_ (by assumption) | refine Row.chg ?_ (by assumption) (by first | (simp; done) | (simp; omega))))) hu1; clear hr1))
    | (go_at_call 5; ((with_reducible refine (answers_calls _).mono ?_); rintro E w2 ⟨rfl, hu2⟩; have z2 := hu2.size; have RB2 : Row w2 w.heap.size #[.int .i64 k, .slice pa pl pc, .int .i64 sp, .int .i64 p0, .int .i64 p1, .int .i64 p2, .int .i64 p3, .slice ca cl cc, .int .i64 wd, .int .i64 cp, .int .i64 jn, .int .i64 mt, .slice da dl dc, .int .i64 ph, .int .i64 fn, .int .i64 m.a, .int .i64 m.b, .int .i64 m.c, .int .i64 m.d, .int .i64 m.x, .int .i64 m.y, .slice ba bl bc] := Row.up (show Row _ w.heap.size #[.int .i64 k, .slice pa pl pc, .int .i64 sp, .int .i64 p0, .int .i64 p1, .int .i64 p2, .int .i64 p3, .slice ca cl cc, .int .i64 wd, .int .i64 cp, .int .i64 jn, .int .i64 mt, .slice da dl dc, .int .i64 ph, .int .i64 fn, .int .i64 m.a, .int .i64 m.b, .int .i64 m.c, .int .i64 m.d, .int .i64 m.x, .int .i64 m.y, .slice ba bl bc] by (repeat' (with_reducible first | assumption | (refine Row.at _ _ ?_; (simp; done)) | refine Row.alloc ?_ _ | refine Row.drew ?_ | refine Row.drewN ?_ _ | refine Row.other ?_ (by first | (simp; done) | (simp; omega) | omega) _ | refine Row.up ?_ (by assumption) | refine Row.chg ?_ (by assumption) (by first | (simp; done) | (simp; omega))))) hu2))
    | (go_at_call 9; ((with_reducible refine (light_calls k sp p0 p1 p2 p3 wd cp jn mt ph fn m pa ca da ba pl pc cl cc dl dc bl bc _).mono ?_); rw [HLT.out]; rintro E w3 ⟨rfl, hu3⟩; have z3 := hu3.size; have RB3 : Row w3 w.heap.size #[.int .i64 k, .slice pa pl pc, .int .i64 sp, .int .i64 p0, .int .i64 p1, .int .i64 p2, .int .i64 p3, .slice ca cl cc, .int .i64 wd, .int .i64 cp, .int .i64 jn, .int .i64 mt, .slice da dl dc, .int .i64 ph, .int .i64 fn, .int .i64 m.a, .int .i64 m.b, .int .i64 m.c, .int .i64 m.d, .int .i64 m.x, .int .i64 m.y, .slice ba bl bc] := Row.up (show Row _ w.heap.size #[.int .i64 k, .slice pa pl pc, .int .i64 sp, .int .i64 p0, .int .i64 p1, .int .i64 p2, .int .i64 p3, .slice ca cl cc, .int .i64 wd, .int .i64 cp, .int .i64 jn, .int .i64 mt, .slice da dl dc, .int .i64 ph, .int .i64 fn, .int .i64 m.a, .int .i64 m.b, .int .i64 m.c, .int .i64 m.d, .int .i64 m.x, .int .i64 m.y, .slice ba bl bc] by (repeat' (with_reducible first | assumption | (refine Row.at _ _ ?_; (simp; done)) | refine Row.alloc ?_ _ | refine Row.drew ?_ | refine Row.drewN ?_ _ | refine Row.other ?_ (by first | (simp; done) | (simp; omega) | omega) _ | refine Row.up ?_ (by assumption) | refine Row.chg ?_ (by assumption) (by first | (simp; done) | (simp; omega))))) hu3))
    | (go_at_call 10; ((with_reducible refine (soundItem_calls k pa pl pc sp p0 p1 p2 p3 ca cl cc wd cp jn mt da dl dc ph fn m ba bl bc l cs ds bs _ _ _ _ _ _ _ _ (HLI.out.up (by (repeat' (first | (with_reducible first | exact Up.refl _ | assumption | refine Up.alloc ?_ _ | refine Up.drew ?_ | refine Up.drewN ?_ _ | refine Up.setCell ?_ ?_ _ | refine Up.call ?_ (by assumption)) | go_size)))) rfl rfl rfl rfl rfl rfl rfl).mono ?_); rw [HOK.out]; rintro E w4 ⟨rfl, hu4⟩; have z4 := hu4.size; have RB4 : Row w4 w.heap.size #[.int .i64 k, .slice pa pl pc, .int .i64 sp, .int .i64 p0, .int .i64 p1, .int .i64 p2, .int .i64 p3, .slice ca cl cc, .int .i64 wd, .int .i64 cp, .int .i64 jn, .int .i64 mt, .slice da dl dc, .int .i64 ph, .int .i64 fn, .int .i64 m.a, .int .i64 m.b, .int .i64 m.c, .int .i64 m.d, .int .i64 m.x, .int .i64 m.y, .slice ba bl bc] := Row.up (show Row _ w.heap.size #[.int .i64 k, .slice pa pl pc, .int .i64 sp, .int .i64 p0, .int .i64 p1, .int .i64 p2, .int .i64 p3, .slice ca cl cc, .int .i64 wd, .int .i64 cp, .int .i64 jn, .int .i64 mt, .slice da dl dc, .int .i64 ph, .int .i64 fn, .int .i64 m.a, .int .i64 m.b, .int .i64 m.c, .int .i64 m.d, .int .i64 m.x, .int .i64 m.y, .slice ba bl bc] by (repeat' (with_reducible first | assumption | (refine Row.at _ _ ?_; (simp; done)) | refine Row.alloc ?_ _ | refine Row.drew ?_ | refine Row.drewN ?_ _ | refine Row.other ?_ (by first | (simp; done) | (simp; omega) | omega) _ | refine Row.up ?_ (by assumption) | refine Row.chg ?_ (by assumption) (by first | (simp; done) | (simp; omega))))) hu4))
    | (go_at_call 11; ((refine (lown_item ⟨k, .slice pa pl pc, l, sp, p0, p1, p2, p3, .slice ca cl cc, cs, wd, cp, jn, mt, .slice da dl dc, ds, ph, fn, m, .slice ba bl bc, bs⟩ _ (HA.out.up (by (repeat' (first | (with_reducible first | exact Up.refl _ | assumption | refine Up.alloc ?_ _ | refine Up.drew ?_ | refine Up.drewN ?_ _ | refine Up.setCell ?_ ?_ _ | refine Up.call ?_ (by assumption)) | go_size)))) HL.out).mono ?_); rintro E w5 ⟨x, rfl, hx1, hx2, hx3, hu5⟩; have z5 := hu5.size; have RB5 : Row w5 w.heap.size #[.int .i64 k, .slice pa pl pc, .int .i64 sp, .int .i64 p0, .int .i64 p1, .int .i64 p2, .int .i64 p3, .slice ca cl cc, .int .i64 wd, .int .i64 cp, .int .i64 jn, .int .i64 mt, .slice da dl dc, .int .i64 ph, .int .i64 fn, .int .i64 m.a, .int .i64 m.b, .int .i64 m.c, .int .i64 m.d, .int .i64 m.x, .int .i64 m.y, .slice ba bl bc] := Row.up (show Row _ w.heap.size #[.int .i64 k, .slice pa pl pc, .int .i64 sp, .int .i64 p0, .int .i64 p1, .int .i64 p2, .int .i64 p3, .slice ca cl cc, .int .i64 wd, .int .i64 cp, .int .i64 jn, .int .i64 mt, .slice da dl dc, .int .i64 ph, .int .i64 fn, .int .i64 m.a, .int .i64 m.b, .int .i64 m.c, .int .i64 m.d, .int .i64 m.x, .int .i64 m.y, .slice ba bl bc] by (repeat' (with_reducible first | assumption | (refine Row.at _ _ ?_; (simp; done)) | refine Row.alloc ?_ _ | refine Row.drew ?_ | refine Row.drewN ?_ _ | refine Row.other ?_ (by first | (simp; done) | (simp; omega) | omega) _ | refine Row.up ?_ (by assumption) | refine Row.chg ?_ (by assumption) (by first | (simp; done) | (simp; omega))))) hu5; have HXD := Lib.hid hx1; have HXO := Lib.hid hx2; have HXF := Lib.hid hx3; have HXL := Lib.hid (show Lens x.dat by rw [hx1]; exact HL.out); have HXK := Lib.hid (show itemR x = true by rw [itemR_dat (show x.dat = Item.dat ⟨k, .slice pa pl pc, l, sp, p0, p1, p2, p3, .slice ca cl cc, cs, wd, cp, jn, mt, .slice da dl dc, ds, ph, fn, m, .slice ba bl bc, bs⟩ from hx1)]; exact HK.out); clear hx1 hx2 hx3))
    | ((refine wpList_store_Row rfl 36 (.tmp 5) _ rfl w5.heap.size x.cells.toArray rfl rfl #[.int .i64 0, .slice none 0 0, .int .i64 0, .int .i64 0, .int .i64 0, .int .i64 0, .int .i64 0, .slice none 0 0, .int .i64 0, .int .i64 0, .int .i64 0, .int .i64 0, .slice none 0 0, .int .i64 0, .int .i64 0, .int .i64 0, .int .i64 0, .int .i64 0, .int .i64 0, .int .i64 0, .int .i64 0, .slice none 0 0] (by (repeat' (with_reducible first | assumption | (refine Row.at _ _ ?_; (simp; done)) | refine Row.alloc ?_ _ | refine Row.drew ?_ | refine Row.drewN ?_ _ | refine Row.other ?_ (by first | (simp; done) | (simp; omega) | omega) _ | refine Row.up ?_ (by assumption) | refine Row.chg ?_ (by assumption) (by first | (simp; done) | (simp; omega))))) infoItem rfl rfl (cells_one HXO.out.is) ?_); intro w6 hr6 hc6; have z6 := hc6.size; (try simp at z6); have hu6 : Up w5 w6 := (show Chg [] w5 w6 by (repeat' (first | (with_reducible first | exact Chg.refl _ _ | assumption | refine Chg.alloc ?_ _ | refine Chg.drew ?_ | refine Chg.drewN ?_ _ | refine Chg.setCell ?_ ?_ _ | refine Chg.upc ?_ (by assumption) | refine Chg.call ?_ (by assumption) ?_) | (refine Or.inl ?_; (simp; done)) | (simp; done) | (simp; omega) | omega))).up; have RB6 : Row w6 w.heap.size #[.int .i64 k, .slice pa pl pc, .int .i64 sp, .int .i64 p0, .int .i64 p1, .int .i64 p2, .int .i64 p3, .slice ca cl cc, .int .i64 wd, .int .i64 cp, .int .i64 jn, .int .i64 mt, .slice da dl dc, .int .i64 ph, .int .i64 fn, .int .i64 m.a, .int .i64 m.b, .int .i64 m.c, .int .i64 m.d, .int .i64 m.x, .int .i64 m.y, .slice ba bl bc] := Row.up RB5 hu6; have RX6 := hr6; clear hc6 hr6)
    | (go_at_call 12; ((refine (add_item x 65536 65536 2 c _ (HR1.out.up (by (repeat' (first | (with_reducible first | exact Up.refl _ | assumption | refine Up.alloc ?_ _ | refine Up.drew ?_ | refine Up.drewN ?_ _ | refine Up.setCell ?_ ?_ _ | refine Up.call ?_ (by assumption)) | go_size)))) (HXO.out.up (by (repeat' (first | (with_reducible first | exact Up.refl _ | assumption | refine Up.alloc ?_ _ | refine Up.drew ?_ | refine Up.drewN ?_ _ | refine Up.setCell ?_ ?_ _ | refine Up.call ?_ (by assumption)) | go_size)))) HXL.out HXK.out (HT.out.up (by (repeat' (first | (with_reducible first | exact Up.refl _ | assumption | refine Up.alloc ?_ _ | refine Up.drew ?_ | refine Up.drewN ?_ _ | refine Up.setCell ?_ ?_ _ | refine Up.call ?_ (by assumption)) | go_size))))).mono ?_); rintro E w7 ⟨rfl, j, g, cap, hj1, hj2, hj3, hc7⟩; have z7 := hc7.size; have HW6 := Lib.hid (show Up w w6 by (repeat' (first | (with_reducible first | exact Up.refl _ | assumption | refine Up.alloc ?_ _ | refine Up.drew ?_ | refine Up.drewN ?_ _ | refine Up.setCell ?_ ?_ _ | refine Up.call ?_ (by assumption)) | go_size))); have RB7 : Row w7 w.heap.size #[.int .i64 k, .slice pa pl pc, .int .i64 sp, .int .i64 p0, .int .i64 p1, .int .i64 p2, .int .i64 p3, .slice ca cl cc, .int .i64 wd, .int .i64 cp, .int .i64 jn, .int .i64 mt, .slice da dl dc, .int .i64 ph, .int .i64 fn, .int .i64 m.a, .int .i64 m.b, .int .i64 m.c, .int .i64 m.d, .int .i64 m.x, .int .i64 m.y, .slice ba bl bc] := Row.chg RB6 hc7 (by have := HC.out; simp; omega); have RX7 : Row w7 w5.heap.size x.cells.toArray := Row.chg RX6 hc7 (by simp; omega); have HJD := Lib.hid (hj1.trans HXD.out); have HR7 := Lib.hid hj2; have HJ7 := Lib.hid hj3; have HX7 := Lib.hid ((HXO.out.up hu6).chg hc7 (fun b hb h2 => by have := (HXF.out b hb).1; simp at h2; omega)); have HW7 := Lib.hid (up_new HW6.out hc7 (fun b hb => by have := HC.out; simp at hb; omega)); have HJL := Lib.hid (show Lens j.dat by rw [hj1, HXD.out]; exact HL.out); clear hj1 hj2 hj3 hc7 hu6))
    | (go_at_call 13; ((with_reducible refine (spoil_item x _ HX7.out HXL.out).mono ?_); rintro E w8 ⟨v8, rfl, hc8⟩; have z8 := hc8.size; have hlo : ∀ b ∈ x.bl, c < b ∧ w.heap.size < b ∧ b < w6.heap.size := (fun b hb => by have := HXF.out b hb; have := HC.out; omega); have RB8 : Row w8 w.heap.size #[.int .i64 k, .slice pa pl pc, .int .i64 sp, .int .i64 p0, .int .i64 p1, .int .i64 p2, .int .i64 p3, .slice ca cl cc, .int .i64 wd, .int .i64 cp, .int .i64 jn, .int .i64 mt, .slice da dl dc, .int .i64 ph, .int .i64 fn, .int .i64 m.a, .int .i64 m.b, .int .i64 m.c, .int .i64 m.d, .int .i64 m.x, .int .i64 m.y, .slice ba bl bc] := Row.chg RB7 hc8 (fun h2 => by have := hlo _ h2; omega); have HR8 := Lib.hid (Row.chg HR7.out hc8 (fun h2 => by have := hlo _ h2; omega)); have HJ8 := Lib.hid (HJ7.out.chg hc8 (fun b hb => (hlo b hb).2.2)); have HW8 := Lib.hid (up_new HW7.out hc8 (fun b hb => by have := hlo b hb; omega)); clear hc8 hlo))
    | (go_at_call 14; ((refine (items_one 65536 65536 2 _ c j _ g cap _ HR8.out HJ8.out HJL.out).mono ?_); rintro E w9 ⟨g2, cap2, rfl, j2, hj1, hj2, hu9⟩; have z9 := hu9.size; have HJ2 := Lib.hid hj1; have HJ2L := Lib.hid (show Lens j2.dat by rw [hj2]; exact HJL.out); have lg2 : g2 < w9.heap.size := (hj1.row.lt g2 rfl).2; clear hj1 hj2))
    | (go_at_call 13; ((with_reducible refine (spoil_item j2 _ HJ2.out.it HJ2L.out).mono ?_); rintro E w10 ⟨v10, rfl, hc10⟩; have z10 := hc10.size; have hu10 : Up w8 w10 := up_new hu9 hc10 (fun b hb => (HJ2.out.lo b hb).1); have RB10 : Row w10 w.heap.size #[.int .i64 k, .slice pa pl pc, .int .i64 sp, .int .i64 p0, .int .i64 p1, .int .i64 p2, .int .i64 p3, .slice ca cl cc, .int .i64 wd, .int .i64 cp, .int .i64 jn, .int .i64 mt, .slice da dl dc, .int .i64 ph, .int .i64 fn, .int .i64 m.a, .int .i64 m.b, .int .i64 m.c, .int .i64 m.d, .int .i64 m.x, .int .i64 m.y, .slice ba bl bc] := Row.up RB8 hu10; have HR10 := Lib.hid (HR8.out.up hu10); have HJ10 := Lib.hid (HJ8.out.up hu10); have HW10 := Lib.hid (Up.call HW8.out hu10); clear hc10 hu9))
    | (refine wpList_load_midG j2 g2 (.tmp 45) rfl (by rfl) rfl HJ2.out.range ?_)
    | (refine wpList_load_RowG 36 (.tmp 1) rfl (by rfl) w.heap.size rfl #[.int .i64 k, .slice pa pl pc, .int .i64 sp, .int .i64 p0, .int .i64 p1, .int .i64 p2, .int .i64 p3, .slice ca cl cc, .int .i64 wd, .int .i64 cp, .int .i64 jn, .int .i64 mt, .slice da dl dc, .int .i64 ph, .int .i64 fn, .int .i64 m.a, .int .i64 m.b, .int .i64 m.c, .int .i64 m.d, .int .i64 m.x, .int .i64 m.y, .slice ba bl bc] (by (repeat' (with_reducible first | assumption | (refine Row.at _ _ ?_; (simp; done)) | refine Row.alloc ?_ _ | refine Row.drew ?_ | refine Row.drewN ?_ _ | refine Row.other ?_ (by first | (simp; done) | (simp; omega) | omega) _ | refine Row.up ?_ (by assumption) | refine Row.chg ?_ (by assumption) (by first | (simp; done) | (simp; omega))))) _ Tryd.underlying36 rfl infoItem rfl ?_)
    | (refine wpList_load_Row rfl 36 (.tmp 1) rfl w.heap.size rfl #[.int .i64 k, .slice pa pl pc, .int .i64 sp, .int .i64 p0, .int .i64 p1, .int .i64 p2, .int .i64 p3, .slice ca cl cc, .int .i64 wd, .int .i64 cp, .int .i64 jn, .int .i64 mt, .slice da dl dc, .int .i64 ph, .int .i64 fn, .int .i64 m.a, .int .i64 m.b, .int .i64 m.c, .int .i64 m.d, .int .i64 m.x, .int .i64 m.y, .slice ba bl bc] _ (by (repeat' (with_reducible first | assumption | (refine Row.at _ _ ?_; (simp; done)) | refine Row.alloc ?_ _ | refine Row.drew ?_ | refine Row.drewN ?_ _ | refine Row.other ?_ (by first | (simp; done) | (simp; omega) | omega) _ | refine Row.up ?_ (by assumption) | refine Row.chg ?_ (by assumption) (by first | (simp; done) | (simp; omega))))) Tryd.underlying36 rfl infoItem rfl ?_)
    | (refine wpList_load_Row rfl 36 (.tmp 5) rfl w5.heap.size rfl x.cells.toArray _ (by first | exact RX7 | exact RX6) Tryd.underlying36 rfl infoItem rfl ?_))
  refine wp_region_held_drew (S := fun w' => Row w' w.heap.size #[.int .i64 k, .slice pa pl pc, .int .i64 sp, .int .i64 p0, .int .i64 p1, .int .i64 p2, .int .i64 p3, .slice ca cl cc, .int .i64 wd, .int .i64 cp, .int .i64 jn, .int .i64 mt, .slice da dl dc, .int .i64 ph, .int .i64 fn, .int .i64 m.a, .int .i64 m.b, .int .i64 m.c, .int .i64 m.d, .int .i64 m.x, .int .i64 m.y, .slice ba bl bc]) (by kernel_rfl) ?_ (fun hHeld => ?_)
  · exact Row.drew RB10
  refine wpAnyH_take (i := 0) (v := ?_) rfl (by kernel_rfl) (by kernel_rfl) (by kernel_rfl) (fun _ _ _ h => h) (Or.inl ⟨by rfl, ?_⟩) (by assumption) ?_
  rotate_left
  · intro w2 hSw
    (try dsimp only at hSw)
    skip
    go_simp
    (try (with_reducible rfl))
  (try simp only [Act.put, lga, lgz, lgs, lsa, lsz, lss])
  refine wpAnyH_ready (rs := [1]) (by decide +kernel) (by simp) ?_
  refine AllReadyH.cons rfl (fun K hK => ?_) (AllReadyH.nil)
  (try simp only [lga, lgz, lgs])
  (go_simp; go_at_call 15; (refine (show_one 65536 65536 2 (by decide) c g cap _ (HR10.out.up (by (repeat' (first | (with_reducible first | exact Up.refl _ | assumption | refine Up.alloc ?_ _ | refine Up.drew ?_ | refine Up.drewN ?_ _ | refine Up.setCell ?_ ?_ _ | refine Up.call ?_ (by assumption)) | go_size))))).mono ?_); rintro E w11 ⟨rfl, gp, capp, hr11, ho11, hc11⟩; have hd10 : Up w10 (World.drew w10) := (by (repeat' (first | (with_reducible first | exact Up.refl _ | assumption | refine Up.alloc ?_ _ | refine Up.drew ?_ | refine Up.drewN ?_ _ | refine Up.setCell ?_ ?_ _ | refine Up.call ?_ (by assumption)) | go_size))); have RB11 : Row w11 w.heap.size #[.int .i64 k, .slice pa pl pc, .int .i64 sp, .int .i64 p0, .int .i64 p1, .int .i64 p2, .int .i64 p3, .slice ca cl cc, .int .i64 wd, .int .i64 cp, .int .i64 jn, .int .i64 mt, .slice da dl dc, .int .i64 ph, .int .i64 fn, .int .i64 m.a, .int .i64 m.b, .int .i64 m.c, .int .i64 m.d, .int .i64 m.x, .int .i64 m.y, .slice ba bl bc] := Row.chg (Row.up RB10 hd10) hc11 (by have := HC.out; simp; omega); have HR11 := Lib.hid hr11; have HO11 := Lib.hid (owned_new ho11).1; have HJ11 := Lib.hid ((HJ10.out.up hd10).chg hc11 (fun b hb => by simp at hb; omega)); have HW11 := Lib.hid (up_new (Up.call HW10.out hd10) hc11 (fun b hb => by have := HC.out; simp at hb; omega)); clear hr11 ho11 hc11; (try dsimp only))
  refine hK.out _ _ ?_ (fun hHeld => ?_)
  · exact RB11
  clear hK K
  (try simp only [Act.put, lga, lgz, lgs, lsa, lsz, lss])
  refine wpAnyH_take (i := 2) (v := ?_) rfl (by kernel_rfl) (by kernel_rfl) (by kernel_rfl) (fun _ _ _ h => h) (Or.inl ⟨by rfl, ?_⟩) (by assumption) ?_
  rotate_left
  · intro w2 hSw
    (try dsimp only at hSw)
    skip
    go_simp
    (try (with_reducible rfl))
  (try simp only [Act.put, lga, lgz, lgs, lsa, lsz, lss])
  refine wpAnyH_take (i := 3) (v := ?_) rfl (by kernel_rfl) (by kernel_rfl) (by kernel_rfl) (fun _ _ _ h => h) (Or.inl ⟨by rfl, ?_⟩) (by assumption) ?_
  rotate_left
  · intro w2 hSw
    (try dsimp only at hSw)
    skip
    go_simp
    (try (with_reducible rfl))
  (try simp only [Act.put, lga, lgz, lgs, lsa, lsz, lss])
  refine wpAnyH_take (i := 4) (v := ?_) rfl (by kernel_rfl) (by kernel_rfl) (by kernel_rfl) (fun _ _ _ h => h) (Or.inl ⟨by rfl, ?_⟩) (by assumption) ?_
  rotate_left
  · intro w2 hSw
    (try dsimp only at hSw)
    skip
    go_simp
    (try (with_reducible rfl))
  (try simp only [Act.put, lga, lgz, lgs, lsa, lsz, lss])
  refine wpAnyH_take (i := 11) rfl (by kernel_rfl) (by kernel_rfl) (by kernel_rfl) (fun _ _ _ h => h) (yieldsIf_load_mid (by rfl) 36 (.tmp 1) rfl w.heap.size 0 rfl #[.int .i64 k, .slice pa pl pc, .int .i64 sp, .int .i64 p0, .int .i64 p1, .int .i64 p2, .int .i64 p3, .slice ca cl cc, .int .i64 wd, .int .i64 cp, .int .i64 jn, .int .i64 mt, .slice da dl dc, .int .i64 ph, .int .i64 fn, .int .i64 m.a, .int .i64 m.b, .int .i64 m.c, .int .i64 m.d, .int .i64 m.x, .int .i64 m.y, .slice ba bl bc].toList _ (fun _ h => rng0 h) Tryd.underlying36 rfl (by exact infoItem)) (by assumption) ?_
  (try simp only [Act.put, lga, lgz, lgs, lsa, lsz, lss])
  refine wpAnyH_ready (rs := [5]) (by decide +kernel) (by simp) ?_
  refine AllReadyH.cons rfl (fun K hK => ?_) (AllReadyH.nil)
  (try simp only [lga, lgz, lgs])
  (go_simp; go_at_call 17; (refine (pages_item 65536 65536 2 _ j c gp capp _ _ g cap _ HR11.out HO11.out HJ11.out HJL.out).mono ?_); rintro E w12 ⟨q3, cqq3, rfl, gi3, ci3, hqw12, ⟨j3, h1w12, h2w12⟩, hlw12, huw12⟩; have RBw12 : Row w12 w.heap.size #[.int .i64 k, .slice pa pl pc, .int .i64 sp, .int .i64 p0, .int .i64 p1, .int .i64 p2, .int .i64 p3, .slice ca cl cc, .int .i64 wd, .int .i64 cp, .int .i64 jn, .int .i64 mt, .slice da dl dc, .int .i64 ph, .int .i64 fn, .int .i64 m.a, .int .i64 m.b, .int .i64 m.c, .int .i64 m.d, .int .i64 m.x, .int .i64 m.y, .slice ba bl bc] := Row.up (show Row _ w.heap.size #[.int .i64 k, .slice pa pl pc, .int .i64 sp, .int .i64 p0, .int .i64 p1, .int .i64 p2, .int .i64 p3, .slice ca cl cc, .int .i64 wd, .int .i64 cp, .int .i64 jn, .int .i64 mt, .slice da dl dc, .int .i64 ph, .int .i64 fn, .int .i64 m.a, .int .i64 m.b, .int .i64 m.c, .int .i64 m.d, .int .i64 m.x, .int .i64 m.y, .slice ba bl bc] by (repeat' (with_reducible first | assumption | (refine Row.at _ _ ?_; (simp; done)) | refine Row.alloc ?_ _ | refine Row.drew ?_ | refine Row.drewN ?_ _ | refine Row.other ?_ (by first | (simp; done) | (simp; omega) | omega) _ | refine Row.up ?_ (by assumption) | refine Row.chg ?_ (by assumption) (by first | (simp; done) | (simp; omega))))) huw12; have HPw12 := Lib.hid h1w12; have HDw12 := Lib.hid (h2w12.trans HJD.out); clear h1w12 h2w12; (try dsimp only))
  refine hK.out _ _ ?_ (fun hHeld => ?_)
  · exact RBw12
  clear hK K
  (try simp only [Act.put, lga, lgz, lgs, lsa, lsz, lss])
  refine wpAnyH_take (i := 6) (v := ?_) rfl (by kernel_rfl) (by kernel_rfl) (by kernel_rfl) (fun _ _ _ h => h) (Or.inl ⟨by rfl, ?_⟩) (by assumption) ?_
  rotate_left
  · intro w2 hSw
    (try dsimp only at hSw)
    skip
    go_simp
    (try (with_reducible rfl))
  (try simp only [Act.put, lga, lgz, lgs, lsa, lsz, lss])
  refine wpAnyH_take (i := 7) (v := ?_) rfl (by kernel_rfl) (by kernel_rfl) (by kernel_rfl) (fun _ _ _ h => h) (Or.inl ⟨by rfl, ?_⟩) (by assumption) ?_
  rotate_left
  · intro w2 hSw
    (try dsimp only at hSw)
    skip
    go_simp
    (try (with_reducible rfl))
  (try simp only [Act.put, lga, lgz, lgs, lsa, lsz, lss])
  refine wpAnyH_ready (rs := [8]) (by decide +kernel) (by simp) ?_
  refine AllReadyH.cons rfl (fun K hK => ?_) (AllReadyH.nil)
  (try simp only [lga, lgz, lgs])
  (go_simp)
  refine hK.out _ _ ?_ (fun hHeld => ?_)
  · exact RBw12
  clear hK K
  (try simp only [Act.put, lga, lgz, lgs, lsa, lsz, lss])
  refine wpAnyH_take (i := 9) (v := ?_) rfl (by kernel_rfl) (by kernel_rfl) (by kernel_rfl) (fun _ _ _ h => h) (Or.inl ⟨by rfl, ?_⟩) (by assumption) ?_
  rotate_left
  · intro w2 hSw
    (try dsimp only at hSw)
    skip
    go_simp
    (try (with_reducible rfl))
  (try simp only [Act.put, lga, lgz, lgs, lsa, lsz, lss])
  refine wpAnyH_ready (rs := [10]) (by decide +kernel) (by simp) ?_
  refine AllReadyH.cons rfl (fun K hK => ?_) (AllReadyH.nil)
  (try simp only [lga, lgz, lgs])
  (rw [if_pos (by rfl)]; refine wp_load_midG j3 gi3 (.tmp 57) rfl rfl HPw12.out.range ?_)
  refine hK.out _ _ ?_ (fun hHeld => ?_)
  · exact RBw12
  clear hK K
  (try simp only [Act.put, lga, lgz, lgs, lsa, lsz, lss])
  refine wpAnyH_ready (rs := [12]) (by decide +kernel) (by simp) ?_
  refine AllReadyH.cons rfl (fun K hK => ?_) (AllReadyH.nil)
  (try simp only [lga, lgz, lgs])
  (go_simp; go_at_call 16; (refine (sameItem_eq j3 ⟨k, .slice pa pl pc, l, sp, p0, p1, p2, p3, .slice ca cl cc, cs, wd, cp, jn, mt, .slice da dl dc, ds, ph, fn, m, .slice ba bl bc, bs⟩ _ HPw12.out.it.is (HI.out.up (Up.call HW11.out (by (repeat' (first | (with_reducible first | exact Up.refl _ | assumption | refine Up.alloc ?_ _ | refine Up.drew ?_ | refine Up.drewN ?_ _ | refine Up.setCell ?_ ?_ _ | refine Up.call ?_ (by assumption)) | go_size))))) HDw12.out (by rw [HDw12.out]; exact HL.out)).mono ?_); rintro E w13 ⟨rfl, huw13⟩; have RBw13 : Row w13 w.heap.size #[.int .i64 k, .slice pa pl pc, .int .i64 sp, .int .i64 p0, .int .i64 p1, .int .i64 p2, .int .i64 p3, .slice ca cl cc, .int .i64 wd, .int .i64 cp, .int .i64 jn, .int .i64 mt, .slice da dl dc, .int .i64 ph, .int .i64 fn, .int .i64 m.a, .int .i64 m.b, .int .i64 m.c, .int .i64 m.d, .int .i64 m.x, .int .i64 m.y, .slice ba bl bc] := Row.up RBw12 huw13; (try dsimp only))
  refine hK.out _ _ ?_ (fun hHeld => ?_)
  · exact RBw13
  clear hK K
  (try simp only [Act.put, lga, lgz, lgs, lsa, lsz, lss])
  refine wpAnyH_take (i := 13) (v := ?_) rfl (by kernel_rfl) (by kernel_rfl) (by kernel_rfl) (fun _ _ _ h => h) (Or.inl ⟨by rfl, ?_⟩) (by assumption) ?_
  rotate_left
  · intro w2 hSw
    (try dsimp only at hSw)
    skip
    go_simp
    (try (with_reducible rfl))
  (try simp only [Act.put, lga, lgz, lgs, lsa, lsz, lss])
  refine wpAnyH_take (i := 14) (v := ?_) rfl (by kernel_rfl) (by kernel_rfl) (by kernel_rfl) (fun _ _ _ h => h) (Or.inl ⟨by rfl, ?_⟩) (by assumption) ?_
  rotate_left
  · intro w2 hSw
    (try dsimp only at hSw)
    skip
    go_simp
    (try (with_reducible rfl))
  (try simp only [Act.put, lga, lgz, lgs, lsa, lsz, lss])
  refine wpAnyH_done (by kernel_rfl) ?_ _
  clear hHeld
  go_wp2_with (first
    | (go_at_call 17; ((refine (pages_item 65536 65536 2 _ j c gp capp _ _ g cap _ (HR11.out.up (by (repeat' (first | (with_reducible first | exact Up.refl _ | assumption | refine Up.alloc ?_ _ | refine Up.drew ?_ | refine Up.drewN ?_ _ | refine Up.setCell ?_ ?_ _ | refine Up.call ?_ (by assumption)) | go_size)))) (raw_up HO11.out (by (repeat' (first | (with_reducible first | exact Up.refl _ | assumption | refine Up.alloc ?_ _ | refine Up.drew ?_ | refine Up.drewN ?_ _ | refine Up.setCell ?_ ?_ _ | refine Up.call ?_ (by assumption)) | go_size)))) (HJ11.out.up (by (repeat' (first | (with_reducible first | exact Up.refl _ | assumption | refine Up.alloc ?_ _ | refine Up.drew ?_ | refine Up.drewN ?_ _ | refine Up.setCell ?_ ?_ _ | refine Up.call ?_ (by assumption)) | go_size)))) HJL.out).mono ?_); rintro E w14 ⟨q4, cqq4, rfl, gi4, ci4, hqw14, ⟨j4, h1w14, h2w14⟩, hlw14, huw14⟩; have RBw14 : Row w14 w.heap.size #[.int .i64 k, .slice pa pl pc, .int .i64 sp, .int .i64 p0, .int .i64 p1, .int .i64 p2, .int .i64 p3, .slice ca cl cc, .int .i64 wd, .int .i64 cp, .int .i64 jn, .int .i64 mt, .slice da dl dc, .int .i64 ph, .int .i64 fn, .int .i64 m.a, .int .i64 m.b, .int .i64 m.c, .int .i64 m.d, .int .i64 m.x, .int .i64 m.y, .slice ba bl bc] := Row.up (show Row _ w.heap.size #[.int .i64 k, .slice pa pl pc, .int .i64 sp, .int .i64 p0, .int .i64 p1, .int .i64 p2, .int .i64 p3, .slice ca cl cc, .int .i64 wd, .int .i64 cp, .int .i64 jn, .int .i64 mt, .slice da dl dc, .int .i64 ph, .int .i64 fn, .int .i64 m.a, .int .i64 m.b, .int .i64 m.c, .int .i64 m.d, .int .i64 m.x, .int .i64 m.y, .slice ba bl bc] by (repeat' (with_reducible first | assumption | (refine Row.at _ _ ?_; (simp; done)) | refine Row.alloc ?_ _ | refine Row.drew ?_ | refine Row.drewN ?_ _ | refine Row.other ?_ (by first | (simp; done) | (simp; omega) | omega) _ | refine Row.up ?_ (by assumption) | refine Row.chg ?_ (by assumption) (by first | (simp; done) | (simp; omega))))) huw14; have HPw14 := Lib.hid h1w14; have HDw14 := Lib.hid (h2w14.trans HJD.out); clear h1w14 h2w14; skip))
    | (refine wpList_load_midG j4 gi4 (.tmp 69) rfl (by rfl) rfl HPw14.out.range ?_)
    | (go_at_call 13; ((with_reducible refine (spoil_item j4 _ HPw14.out.it (by rw [HDw14.out]; exact HL.out)).mono ?_); rintro E w15 ⟨v15, rfl, hc15⟩; have z15 := hc15.size; have hu15 : Up w13 w15 := up_new huw14 hc15 (fun b hb => (HPw14.out.lo b hb).1); have RB15 : Row w15 w.heap.size #[.int .i64 k, .slice pa pl pc, .int .i64 sp, .int .i64 p0, .int .i64 p1, .int .i64 p2, .int .i64 p3, .slice ca cl cc, .int .i64 wd, .int .i64 cp, .int .i64 jn, .int .i64 mt, .slice da dl dc, .int .i64 ph, .int .i64 fn, .int .i64 m.a, .int .i64 m.b, .int .i64 m.c, .int .i64 m.d, .int .i64 m.x, .int .i64 m.y, .slice ba bl bc] := Row.up RBw13 hu15; clear hc15 huw14)))
  refine wp_region_held_drew (S := fun w' => Row w' w.heap.size #[.int .i64 k, .slice pa pl pc, .int .i64 sp, .int .i64 p0, .int .i64 p1, .int .i64 p2, .int .i64 p3, .slice ca cl cc, .int .i64 wd, .int .i64 cp, .int .i64 jn, .int .i64 mt, .slice da dl dc, .int .i64 ph, .int .i64 fn, .int .i64 m.a, .int .i64 m.b, .int .i64 m.c, .int .i64 m.d, .int .i64 m.x, .int .i64 m.y, .slice ba bl bc]) (by kernel_rfl) ?_ (fun hHeld => ?_)
  · exact Row.drew RB15
  refine wpAnyH_take (i := 0) (v := ?_) rfl (by kernel_rfl) (by kernel_rfl) (by kernel_rfl) (fun _ _ _ h => h) (Or.inl ⟨by rfl, ?_⟩) (by assumption) ?_
  rotate_left
  · intro w2 hSw
    (try dsimp only at hSw)
    skip
    go_simp
    (try (with_reducible rfl))
  (try simp only [Act.put, lga, lgz, lgs, lsa, lsz, lss])
  refine wpAnyH_take (i := 7) rfl (by kernel_rfl) (by kernel_rfl) (by kernel_rfl) (fun _ _ _ h => h) (yieldsIf_load_mid (by rfl) 36 (.tmp 1) rfl w.heap.size 0 rfl #[.int .i64 k, .slice pa pl pc, .int .i64 sp, .int .i64 p0, .int .i64 p1, .int .i64 p2, .int .i64 p3, .slice ca cl cc, .int .i64 wd, .int .i64 cp, .int .i64 jn, .int .i64 mt, .slice da dl dc, .int .i64 ph, .int .i64 fn, .int .i64 m.a, .int .i64 m.b, .int .i64 m.c, .int .i64 m.d, .int .i64 m.x, .int .i64 m.y, .slice ba bl bc].toList _ (fun _ h => rng0 h) Tryd.underlying36 rfl (by exact infoItem)) (by assumption) ?_
  (try simp only [Act.put, lga, lgz, lgs, lsa, lsz, lss])
  refine wpAnyH_ready (rs := [1]) (by decide +kernel) (by simp) ?_
  refine AllReadyH.cons rfl (fun K hK => ?_) (AllReadyH.nil)
  (try simp only [lga, lgz, lgs])
  (go_simp; go_at_call 17; (refine (pages_item 65536 65536 2 _ j c gp capp _ _ g cap _ (HR11.out.up (by (repeat' (first | (with_reducible first | exact Up.refl _ | assumption | refine Up.alloc ?_ _ | refine Up.drew ?_ | refine Up.drewN ?_ _ | refine Up.setCell ?_ ?_ _ | refine Up.call ?_ (by assumption)) | go_size)))) (raw_up HO11.out (by (repeat' (first | (with_reducible first | exact Up.refl _ | assumption | refine Up.alloc ?_ _ | refine Up.drew ?_ | refine Up.drewN ?_ _ | refine Up.setCell ?_ ?_ _ | refine Up.call ?_ (by assumption)) | go_size)))) (HJ11.out.up (by (repeat' (first | (with_reducible first | exact Up.refl _ | assumption | refine Up.alloc ?_ _ | refine Up.drew ?_ | refine Up.drewN ?_ _ | refine Up.setCell ?_ ?_ _ | refine Up.call ?_ (by assumption)) | go_size)))) HJL.out).mono ?_); rintro E w16 ⟨q6, cqq6, rfl, gi6, ci6, hqw16, ⟨j6, h1w16, h2w16⟩, hlw16, huw16⟩; have RBw16 : Row w16 w.heap.size #[.int .i64 k, .slice pa pl pc, .int .i64 sp, .int .i64 p0, .int .i64 p1, .int .i64 p2, .int .i64 p3, .slice ca cl cc, .int .i64 wd, .int .i64 cp, .int .i64 jn, .int .i64 mt, .slice da dl dc, .int .i64 ph, .int .i64 fn, .int .i64 m.a, .int .i64 m.b, .int .i64 m.c, .int .i64 m.d, .int .i64 m.x, .int .i64 m.y, .slice ba bl bc] := Row.up (show Row _ w.heap.size #[.int .i64 k, .slice pa pl pc, .int .i64 sp, .int .i64 p0, .int .i64 p1, .int .i64 p2, .int .i64 p3, .slice ca cl cc, .int .i64 wd, .int .i64 cp, .int .i64 jn, .int .i64 mt, .slice da dl dc, .int .i64 ph, .int .i64 fn, .int .i64 m.a, .int .i64 m.b, .int .i64 m.c, .int .i64 m.d, .int .i64 m.x, .int .i64 m.y, .slice ba bl bc] by (repeat' (with_reducible first | assumption | (refine Row.at _ _ ?_; (simp; done)) | refine Row.alloc ?_ _ | refine Row.drew ?_ | refine Row.drewN ?_ _ | refine Row.other ?_ (by first | (simp; done) | (simp; omega) | omega) _ | refine Row.up ?_ (by assumption) | refine Row.chg ?_ (by assumption) (by first | (simp; done) | (simp; omega))))) huw16; have HPw16 := Lib.hid h1w16; have HDw16 := Lib.hid (h2w16.trans HJD.out); clear h1w16 h2w16; (try dsimp only))
  refine hK.out _ _ ?_ (fun hHeld => ?_)
  · exact RBw16
  clear hK K
  (try simp only [Act.put, lga, lgz, lgs, lsa, lsz, lss])
  refine wpAnyH_take (i := 2) (v := ?_) rfl (by kernel_rfl) (by kernel_rfl) (by kernel_rfl) (fun _ _ _ h => h) (Or.inl ⟨by rfl, ?_⟩) (by assumption) ?_
  rotate_left
  · intro w2 hSw
    (try dsimp only at hSw)
    skip
    go_simp
    (try (with_reducible rfl))
  (try simp only [Act.put, lga, lgz, lgs, lsa, lsz, lss])
  refine wpAnyH_take (i := 3) (v := ?_) rfl (by kernel_rfl) (by kernel_rfl) (by kernel_rfl) (fun _ _ _ h => h) (Or.inl ⟨by rfl, ?_⟩) (by assumption) ?_
  rotate_left
  · intro w2 hSw
    (try dsimp only at hSw)
    skip
    go_simp
    (try (with_reducible rfl))
  (try simp only [Act.put, lga, lgz, lgs, lsa, lsz, lss])
  refine wpAnyH_ready (rs := [4]) (by decide +kernel) (by simp) ?_
  refine AllReadyH.cons rfl (fun K hK => ?_) (AllReadyH.nil)
  (try simp only [lga, lgz, lgs])
  (go_simp)
  refine hK.out _ _ ?_ (fun hHeld => ?_)
  · exact RBw16
  clear hK K
  (try simp only [Act.put, lga, lgz, lgs, lsa, lsz, lss])
  refine wpAnyH_take (i := 5) (v := ?_) rfl (by kernel_rfl) (by kernel_rfl) (by kernel_rfl) (fun _ _ _ h => h) (Or.inl ⟨by rfl, ?_⟩) (by assumption) ?_
  rotate_left
  · intro w2 hSw
    (try dsimp only at hSw)
    skip
    go_simp
    (try (with_reducible rfl))
  (try simp only [Act.put, lga, lgz, lgs, lsa, lsz, lss])
  refine wpAnyH_ready (rs := [6]) (by decide +kernel) (by simp) ?_
  refine AllReadyH.cons rfl (fun K hK => ?_) (AllReadyH.nil)
  (try simp only [lga, lgz, lgs])
  (rw [if_pos (by rfl)]; refine wp_load_midG j6 gi6 (.tmp 77) rfl rfl HPw16.out.range ?_)
  refine hK.out _ _ ?_ (fun hHeld => ?_)
  · exact RBw16
  clear hK K
  (try simp only [Act.put, lga, lgz, lgs, lsa, lsz, lss])
  refine wpAnyH_ready (rs := [8]) (by decide +kernel) (by simp) ?_
  refine AllReadyH.cons rfl (fun K hK => ?_) (AllReadyH.nil)
  (try simp only [lga, lgz, lgs])
  (go_simp; go_at_call 16; (refine (sameItem_eq j6 ⟨k, .slice pa pl pc, l, sp, p0, p1, p2, p3, .slice ca cl cc, cs, wd, cp, jn, mt, .slice da dl dc, ds, ph, fn, m, .slice ba bl bc, bs⟩ _ HPw16.out.it.is (HI.out.up (Up.call HW11.out (by (repeat' (first | (with_reducible first | exact Up.refl _ | assumption | refine Up.alloc ?_ _ | refine Up.drew ?_ | refine Up.drewN ?_ _ | refine Up.setCell ?_ ?_ _ | refine Up.call ?_ (by assumption)) | go_size))))) HDw16.out (by rw [HDw16.out]; exact HL.out)).mono ?_); rintro E w17 ⟨rfl, huw17⟩; have RBw17 : Row w17 w.heap.size #[.int .i64 k, .slice pa pl pc, .int .i64 sp, .int .i64 p0, .int .i64 p1, .int .i64 p2, .int .i64 p3, .slice ca cl cc, .int .i64 wd, .int .i64 cp, .int .i64 jn, .int .i64 mt, .slice da dl dc, .int .i64 ph, .int .i64 fn, .int .i64 m.a, .int .i64 m.b, .int .i64 m.c, .int .i64 m.d, .int .i64 m.x, .int .i64 m.y, .slice ba bl bc] := Row.up RBw16 huw17; (try dsimp only))
  refine hK.out _ _ ?_ (fun hHeld => ?_)
  · exact RBw17
  clear hK K
  (try simp only [Act.put, lga, lgz, lgs, lsa, lsz, lss])
  refine wpAnyH_take (i := 9) (v := ?_) rfl (by kernel_rfl) (by kernel_rfl) (by kernel_rfl) (fun _ _ _ h => h) (Or.inl ⟨by rfl, ?_⟩) (by assumption) ?_
  rotate_left
  · intro w2 hSw
    (try dsimp only at hSw)
    skip
    go_simp
    (try (with_reducible rfl))
  (try simp only [Act.put, lga, lgz, lgs, lsa, lsz, lss])
  refine wpAnyH_done (by kernel_rfl) ?_ _
  clear hHeld
  go_wp2
  go_ret
  exact ⟨rfl, Up.call HW11.out (by (repeat' (first | (with_reducible first | exact Up.refl _ | assumption | refine Up.alloc ?_ _ | refine Up.drew ?_ | refine Up.drewN ?_ _ | refine Up.setCell ?_ ?_ _ | refine Up.call ?_ (by assumption)) | go_size)))⟩

end Go.Proofs.YteddlahklilncaaDoor.Pt
