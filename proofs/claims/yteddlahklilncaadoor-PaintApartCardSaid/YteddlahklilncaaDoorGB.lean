/- The reference's SameItem of two items that say the same. No condition but lengths. An item argument, opened; law 15's light. No condition. Items: what they say decides whether they are sound; Add of an item that is owned. Its condition: the fonts' names lie as they are laid. -/
import Derived.Test.YteddlahklilncaaDoorGPa10
section
namespace Go.Proofs.YteddlahklilncaaDoor.Pt
open Go.ChangeShapes Go.WideShapes Go.ChangeAt Go.RowKit
open Go.Proofs.YteddlahklilncaaDoor.FixM (fits)
open Go.Proofs.YteddlahklilncaaDoor.PathM (Seg sound)
open Go.Proofs.YteddlahklilncaaDoor.MatM (M6)
set_option linter.unusedVariables false
set_option linter.unusedSimpArgs false

set_option maxRecDepth 8000 in
set_option maxHeartbeats 4000000 in
theorem sameItem_x (k sp p0 p1 p2 p3 wd cp jn mt ph fn : Int) (m : M6) (pa pa2 ca ca2 da da2 ba ba2 : Option Addr) (pl pc pc2 cl cc cc2 dl dc dc2 bl bc bc2 : Nat) (l : List Seg) (cs cs2 : List Clip) (ds bs : List Int) (w : World)
    (p1' : Path.SegV w (.slice pa pl pc) l) (p2' : Path.SegV w (.slice pa2 pl pc2) l) (s1 : Sl 2 Clip.cells w ca cl cc cs) (s2 : Sl 2 Clip.cells w ca2 cl cc2 cs2) (v1 : ∀ c ∈ cs, Path.SegV w c.v c.l) (v2 : ∀ c ∈ cs2, Path.SegV w c.v c.l) (he : cs.map (fun c => (c.l, c.eo)) = cs2.map (fun c => (c.l, c.eo)))
    (d1 : Ints .i64 w (.slice da dl dc) ds) (d2 : Ints .i64 w (.slice da2 dl dc2) ds) (b1 : Ints .u8 w (.slice ba bl bc) bs) (b2 : Ints .u8 w (.slice ba2 bl bc2) bs) (hd : ds.length = dl) (hb : bs.length = bl) (hdl : dl ≤ 1000000000) (hbl : bl ≤ 1000000000) :
    Calls Tryd.prog 16 #[.agg #[.int .i64 k, .slice pa pl pc, .int .i64 sp, .int .i64 p0, .int .i64 p1, .int .i64 p2, .int .i64 p3, .slice ca cl cc, .int .i64 wd, .int .i64 cp, .int .i64 jn, .int .i64 mt, .slice da dl dc, .int .i64 ph, .int .i64 fn, .int .i64 m.a, .int .i64 m.b, .int .i64 m.c, .int .i64 m.d, .int .i64 m.x, .int .i64 m.y, .slice ba bl bc], .agg #[.int .i64 k, .slice pa2 pl pc2, .int .i64 sp, .int .i64 p0, .int .i64 p1, .int .i64 p2, .int .i64 p3, .slice ca2 cl cc2, .int .i64 wd, .int .i64 cp, .int .i64 jn, .int .i64 mt, .slice da2 dl dc2, .int .i64 ph, .int .i64 fn, .int .i64 m.a, .int .i64 m.b, .int .i64 m.c, .int .i64 m.d, .int .i64 m.x, .int .i64 m.y, .slice ba2 bl bc2]] w fun E w' => E = .returned (.bool true) ∧ Up w w' := by
  have HP1 := Lib.hid p1'
  have HP2 := Lib.hid p2'
  have HS1 := Lib.hid s1
  have HS2 := Lib.hid s2
  have HV1 := Lib.hid v1
  have HV2 := Lib.hid v2
  have HE := Lib.hid he
  have HD1 := Lib.hid d1
  have HD2 := Lib.hid d2
  have HB1 := Lib.hid b1
  have HB2 := Lib.hid b2
  have HDL := Lib.hid hd
  have HBL := Lib.hid hb
  have eqC := eq_col sp p0 p1 p2 p3
  have eqM : ∀ w, (Op.equalIn 10000 33 (.agg #[.int .i64 m.a, .int .i64 m.b, .int .i64 m.c, .int .i64 m.d, .int .i64 m.x, .int .i64 m.y]) (.agg #[.int .i64 m.a, .int .i64 m.b, .int .i64 m.c, .int .i64 m.d, .int .i64 m.x, .int .i64 m.y])).run Tryd.prog w = .ok true w := fun w => by
    rw [run_eq6]
    simp [all6]
  clear p1' p2' s1 s2 v1 v2 he d1 d2 b1 b2 hd hb
  go_enter Tryd.func16, Tryd.ntmps16
  go_wp2_with (first
    | (go_at_call 29; ((with_reducible refine (Path.same_calls _ _ l l _ (HP1.out.up (by (repeat' (first | (with_reducible first | exact Up.refl _ | assumption | refine Up.alloc ?_ _ | refine Up.drew ?_ | refine Up.drewN ?_ _ | refine Up.setCell ?_ ?_ _ | refine Up.call ?_ (by assumption)) | go_size)))) (HP2.out.up (by (repeat' (first | (with_reducible first | exact Up.refl _ | assumption | refine Up.alloc ?_ _ | refine Up.drew ?_ | refine Up.drewN ?_ _ | refine Up.setCell ?_ ?_ _ | refine Up.call ?_ (by assumption)) | go_size))))).mono ?_); rw [decide_eq_true (rfl : l = l)]; rintro E w1 ⟨rfl, hu1⟩; have RA_w1 : Row w1 w.heap.size #[.int .i64 k, .slice pa pl pc, .int .i64 sp, .int .i64 p0, .int .i64 p1, .int .i64 p2, .int .i64 p3, .slice ca cl cc, .int .i64 wd, .int .i64 cp, .int .i64 jn, .int .i64 mt, .slice da dl dc, .int .i64 ph, .int .i64 fn, .int .i64 m.a, .int .i64 m.b, .int .i64 m.c, .int .i64 m.d, .int .i64 m.x, .int .i64 m.y, .slice ba bl bc] := Row.up (show Row _ w.heap.size #[.int .i64 k, .slice pa pl pc, .int .i64 sp, .int .i64 p0, .int .i64 p1, .int .i64 p2, .int .i64 p3, .slice ca cl cc, .int .i64 wd, .int .i64 cp, .int .i64 jn, .int .i64 mt, .slice da dl dc, .int .i64 ph, .int .i64 fn, .int .i64 m.a, .int .i64 m.b, .int .i64 m.c, .int .i64 m.d, .int .i64 m.x, .int .i64 m.y, .slice ba bl bc] by (repeat' (with_reducible first | assumption | (refine Row.at _ _ ?_; (simp; done)) | refine Row.alloc ?_ _ | refine Row.drew ?_ | refine Row.drewN ?_ _ | refine Row.other ?_ (by first | (simp; done) | (simp; omega) | omega) _ | refine Row.up ?_ (by assumption) | refine Row.chg ?_ (by assumption) (by first | (simp; done) | (simp; omega))))) hu1; have lA_w1 := RA_w1.lt; have cA_w1_2 : w1.cell? ⟨w.heap.size, 2, none⟩ = some (.int .i64 sp) := RA_w1.cell 2 rfl; have cA_w1_3 : w1.cell? ⟨w.heap.size, 3, none⟩ = some (.int .i64 p0) := RA_w1.cell 3 rfl; have cA_w1_4 : w1.cell? ⟨w.heap.size, 4, none⟩ = some (.int .i64 p1) := RA_w1.cell 4 rfl; have cA_w1_5 : w1.cell? ⟨w.heap.size, 5, none⟩ = some (.int .i64 p2) := RA_w1.cell 5 rfl; have cA_w1_6 : w1.cell? ⟨w.heap.size, 6, none⟩ = some (.int .i64 p3) := RA_w1.cell 6 rfl; have cA_w1_7 : w1.cell? ⟨w.heap.size, 7, none⟩ = some (.slice ca cl cc) := RA_w1.cell 7 rfl; have RB_w1 : Row w1 (w.heap.size + 1) #[.int .i64 k, .slice pa2 pl pc2, .int .i64 sp, .int .i64 p0, .int .i64 p1, .int .i64 p2, .int .i64 p3, .slice ca2 cl cc2, .int .i64 wd, .int .i64 cp, .int .i64 jn, .int .i64 mt, .slice da2 dl dc2, .int .i64 ph, .int .i64 fn, .int .i64 m.a, .int .i64 m.b, .int .i64 m.c, .int .i64 m.d, .int .i64 m.x, .int .i64 m.y, .slice ba2 bl bc2] := Row.up (show Row _ (w.heap.size + 1) #[.int .i64 k, .slice pa2 pl pc2, .int .i64 sp, .int .i64 p0, .int .i64 p1, .int .i64 p2, .int .i64 p3, .slice ca2 cl cc2, .int .i64 wd, .int .i64 cp, .int .i64 jn, .int .i64 mt, .slice da2 dl dc2, .int .i64 ph, .int .i64 fn, .int .i64 m.a, .int .i64 m.b, .int .i64 m.c, .int .i64 m.d, .int .i64 m.x, .int .i64 m.y, .slice ba2 bl bc2] by (repeat' (with_reducible first | assumption | (refine Row.at _ _ ?_; (simp; done)) | refine Row.alloc ?_ _ | refine Row.drew ?_ | refine Row.drewN ?_ _ | refine Row.other ?_ (by first | (simp; done) | (simp; omega) | omega) _ | refine Row.up ?_ (by assumption) | refine Row.chg ?_ (by assumption) (by first | (simp; done) | (simp; omega))))) hu1; have lB_w1 := RB_w1.lt; have cB_w1_2 : w1.cell? ⟨w.heap.size + 1, 2, none⟩ = some (.int .i64 sp) := RB_w1.cell 2 rfl; have cB_w1_3 : w1.cell? ⟨w.heap.size + 1, 3, none⟩ = some (.int .i64 p0) := RB_w1.cell 3 rfl; have cB_w1_4 : w1.cell? ⟨w.heap.size + 1, 4, none⟩ = some (.int .i64 p1) := RB_w1.cell 4 rfl; have cB_w1_5 : w1.cell? ⟨w.heap.size + 1, 5, none⟩ = some (.int .i64 p2) := RB_w1.cell 5 rfl; have cB_w1_6 : w1.cell? ⟨w.heap.size + 1, 6, none⟩ = some (.int .i64 p3) := RB_w1.cell 6 rfl; have cB_w1_7 : w1.cell? ⟨w.heap.size + 1, 7, none⟩ = some (.slice ca2 cl cc2) := RB_w1.cell 7 rfl; have z1 := hu1.size))
    | (go_at_call 30; ((with_reducible refine (sameC_calls _ _ cl _ _ cs cs2 _ (sl_up HS1.out (by (repeat' (first | (with_reducible first | exact Up.refl _ | assumption | refine Up.alloc ?_ _ | refine Up.drew ?_ | refine Up.drewN ?_ _ | refine Up.setCell ?_ ?_ _ | refine Up.call ?_ (by assumption)) | go_size)))) (sl_up HS2.out (by (repeat' (first | (with_reducible first | exact Up.refl _ | assumption | refine Up.alloc ?_ _ | refine Up.drew ?_ | refine Up.drewN ?_ _ | refine Up.setCell ?_ ?_ _ | refine Up.call ?_ (by assumption)) | go_size)))) (fun c hc => (HV1.out c hc).up (by (repeat' (first | (with_reducible first | exact Up.refl _ | assumption | refine Up.alloc ?_ _ | refine Up.drew ?_ | refine Up.drewN ?_ _ | refine Up.setCell ?_ ?_ _ | refine Up.call ?_ (by assumption)) | go_size)))) (fun c hc => (HV2.out c hc).up (by (repeat' (first | (with_reducible first | exact Up.refl _ | assumption | refine Up.alloc ?_ _ | refine Up.drew ?_ | refine Up.drewN ?_ _ | refine Up.setCell ?_ ?_ _ | refine Up.call ?_ (by assumption)) | go_size)))) HE.out).mono ?_); rintro E w2 ⟨rfl, hu2⟩; have RA_w2 : Row w2 w.heap.size #[.int .i64 k, .slice pa pl pc, .int .i64 sp, .int .i64 p0, .int .i64 p1, .int .i64 p2, .int .i64 p3, .slice ca cl cc, .int .i64 wd, .int .i64 cp, .int .i64 jn, .int .i64 mt, .slice da dl dc, .int .i64 ph, .int .i64 fn, .int .i64 m.a, .int .i64 m.b, .int .i64 m.c, .int .i64 m.d, .int .i64 m.x, .int .i64 m.y, .slice ba bl bc] := Row.up (show Row _ w.heap.size #[.int .i64 k, .slice pa pl pc, .int .i64 sp, .int .i64 p0, .int .i64 p1, .int .i64 p2, .int .i64 p3, .slice ca cl cc, .int .i64 wd, .int .i64 cp, .int .i64 jn, .int .i64 mt, .slice da dl dc, .int .i64 ph, .int .i64 fn, .int .i64 m.a, .int .i64 m.b, .int .i64 m.c, .int .i64 m.d, .int .i64 m.x, .int .i64 m.y, .slice ba bl bc] by (repeat' (with_reducible first | assumption | (refine Row.at _ _ ?_; (simp; done)) | refine Row.alloc ?_ _ | refine Row.drew ?_ | refine Row.drewN ?_ _ | refine Row.other ?_ (by first | (simp; done) | (simp; omega) | omega) _ | refine Row.up ?_ (by assumption) | refine Row.chg ?_ (by assumption) (by first | (simp; done) | (simp; omega))))) hu2; have lA_w2 := RA_w2.lt; have cA_w2_8 : w2.cell? ⟨w.heap.size, 8, none⟩ = some (.int .i64 wd) := RA_w2.cell 8 rfl; have cA_w2_9 : w2.cell? ⟨w.heap.size, 9, none⟩ = some (.int .i64 cp) := RA_w2.cell 9 rfl; have cA_w2_10 : w2.cell? ⟨w.heap.size, 10, none⟩ = some (.int .i64 jn) := RA_w2.cell 10 rfl; have cA_w2_11 : w2.cell? ⟨w.heap.size, 11, none⟩ = some (.int .i64 mt) := RA_w2.cell 11 rfl; have cA_w2_12 : w2.cell? ⟨w.heap.size, 12, none⟩ = some (.slice da dl dc) := RA_w2.cell 12 rfl; have cA_w2_13 : w2.cell? ⟨w.heap.size, 13, none⟩ = some (.int .i64 ph) := RA_w2.cell 13 rfl; have RB_w2 : Row w2 (w.heap.size + 1) #[.int .i64 k, .slice pa2 pl pc2, .int .i64 sp, .int .i64 p0, .int .i64 p1, .int .i64 p2, .int .i64 p3, .slice ca2 cl cc2, .int .i64 wd, .int .i64 cp, .int .i64 jn, .int .i64 mt, .slice da2 dl dc2, .int .i64 ph, .int .i64 fn, .int .i64 m.a, .int .i64 m.b, .int .i64 m.c, .int .i64 m.d, .int .i64 m.x, .int .i64 m.y, .slice ba2 bl bc2] := Row.up (show Row _ (w.heap.size + 1) #[.int .i64 k, .slice pa2 pl pc2, .int .i64 sp, .int .i64 p0, .int .i64 p1, .int .i64 p2, .int .i64 p3, .slice ca2 cl cc2, .int .i64 wd, .int .i64 cp, .int .i64 jn, .int .i64 mt, .slice da2 dl dc2, .int .i64 ph, .int .i64 fn, .int .i64 m.a, .int .i64 m.b, .int .i64 m.c, .int .i64 m.d, .int .i64 m.x, .int .i64 m.y, .slice ba2 bl bc2] by (repeat' (with_reducible first | assumption | (refine Row.at _ _ ?_; (simp; done)) | refine Row.alloc ?_ _ | refine Row.drew ?_ | refine Row.drewN ?_ _ | refine Row.other ?_ (by first | (simp; done) | (simp; omega) | omega) _ | refine Row.up ?_ (by assumption) | refine Row.chg ?_ (by assumption) (by first | (simp; done) | (simp; omega))))) hu2; have lB_w2 := RB_w2.lt; have cB_w2_8 : w2.cell? ⟨w.heap.size + 1, 8, none⟩ = some (.int .i64 wd) := RB_w2.cell 8 rfl; have cB_w2_9 : w2.cell? ⟨w.heap.size + 1, 9, none⟩ = some (.int .i64 cp) := RB_w2.cell 9 rfl; have cB_w2_10 : w2.cell? ⟨w.heap.size + 1, 10, none⟩ = some (.int .i64 jn) := RB_w2.cell 10 rfl; have cB_w2_11 : w2.cell? ⟨w.heap.size + 1, 11, none⟩ = some (.int .i64 mt) := RB_w2.cell 11 rfl; have cB_w2_12 : w2.cell? ⟨w.heap.size + 1, 12, none⟩ = some (.slice da2 dl dc2) := RB_w2.cell 12 rfl; have cB_w2_13 : w2.cell? ⟨w.heap.size + 1, 13, none⟩ = some (.int .i64 ph) := RB_w2.cell 13 rfl; have z2 := hu2.size))
    | (go_at_call 24; ((with_reducible refine (samePen_eq _ _ _ _ _ _ _ dl _ _ ds _ HDL.out hdl (HD1.out.up (by (repeat' (first | (with_reducible first | exact Up.refl _ | assumption | refine Up.alloc ?_ _ | refine Up.drew ?_ | refine Up.drewN ?_ _ | refine Up.setCell ?_ ?_ _ | refine Up.call ?_ (by assumption)) | go_size)))) (HD2.out.up (by (repeat' (first | (with_reducible first | exact Up.refl _ | assumption | refine Up.alloc ?_ _ | refine Up.drew ?_ | refine Up.drewN ?_ _ | refine Up.setCell ?_ ?_ _ | refine Up.call ?_ (by assumption)) | go_size))))).mono ?_); rintro E w3 ⟨rfl, hu3⟩; have RA_w3 : Row w3 w.heap.size #[.int .i64 k, .slice pa pl pc, .int .i64 sp, .int .i64 p0, .int .i64 p1, .int .i64 p2, .int .i64 p3, .slice ca cl cc, .int .i64 wd, .int .i64 cp, .int .i64 jn, .int .i64 mt, .slice da dl dc, .int .i64 ph, .int .i64 fn, .int .i64 m.a, .int .i64 m.b, .int .i64 m.c, .int .i64 m.d, .int .i64 m.x, .int .i64 m.y, .slice ba bl bc] := Row.up (show Row _ w.heap.size #[.int .i64 k, .slice pa pl pc, .int .i64 sp, .int .i64 p0, .int .i64 p1, .int .i64 p2, .int .i64 p3, .slice ca cl cc, .int .i64 wd, .int .i64 cp, .int .i64 jn, .int .i64 mt, .slice da dl dc, .int .i64 ph, .int .i64 fn, .int .i64 m.a, .int .i64 m.b, .int .i64 m.c, .int .i64 m.d, .int .i64 m.x, .int .i64 m.y, .slice ba bl bc] by (repeat' (with_reducible first | assumption | (refine Row.at _ _ ?_; (simp; done)) | refine Row.alloc ?_ _ | refine Row.drew ?_ | refine Row.drewN ?_ _ | refine Row.other ?_ (by first | (simp; done) | (simp; omega) | omega) _ | refine Row.up ?_ (by assumption) | refine Row.chg ?_ (by assumption) (by first | (simp; done) | (simp; omega))))) hu3; have lA_w3 := RA_w3.lt; have cA_w3_14 : w3.cell? ⟨w.heap.size, 14, none⟩ = some (.int .i64 fn) := RA_w3.cell 14 rfl; have cA_w3_15 : w3.cell? ⟨w.heap.size, 15, none⟩ = some (.int .i64 m.a) := RA_w3.cell 15 rfl; have cA_w3_16 : w3.cell? ⟨w.heap.size, 16, none⟩ = some (.int .i64 m.b) := RA_w3.cell 16 rfl; have cA_w3_17 : w3.cell? ⟨w.heap.size, 17, none⟩ = some (.int .i64 m.c) := RA_w3.cell 17 rfl; have cA_w3_18 : w3.cell? ⟨w.heap.size, 18, none⟩ = some (.int .i64 m.d) := RA_w3.cell 18 rfl; have cA_w3_19 : w3.cell? ⟨w.heap.size, 19, none⟩ = some (.int .i64 m.x) := RA_w3.cell 19 rfl; have cA_w3_20 : w3.cell? ⟨w.heap.size, 20, none⟩ = some (.int .i64 m.y) := RA_w3.cell 20 rfl; have cA_w3_21 : w3.cell? ⟨w.heap.size, 21, none⟩ = some (.slice ba bl bc) := RA_w3.cell 21 rfl; have RB_w3 : Row w3 (w.heap.size + 1) #[.int .i64 k, .slice pa2 pl pc2, .int .i64 sp, .int .i64 p0, .int .i64 p1, .int .i64 p2, .int .i64 p3, .slice ca2 cl cc2, .int .i64 wd, .int .i64 cp, .int .i64 jn, .int .i64 mt, .slice da2 dl dc2, .int .i64 ph, .int .i64 fn, .int .i64 m.a, .int .i64 m.b, .int .i64 m.c, .int .i64 m.d, .int .i64 m.x, .int .i64 m.y, .slice ba2 bl bc2] := Row.up (show Row _ (w.heap.size + 1) #[.int .i64 k, .slice pa2 pl pc2, .int .i64 sp, .int .i64 p0, .int .i64 p1, .int .i64 p2, .int .i64 p3, .slice ca2 cl cc2, .int .i64 wd, .int .i64 cp, .int .i64 jn, .int .i64 mt, .slice da2 dl dc2, .int .i64 ph, .int .i64 fn, .int .i64 m.a, .int .i64 m.b, .int .i64 m.c, .int .i64 m.d, .int .i64 m.x, .int .i64 m.y, .slice ba2 bl bc2] by (repeat' (with_reducible first | assumption | (refine Row.at _ _ ?_; (simp; done)) | refine Row.alloc ?_ _ | refine Row.drew ?_ | refine Row.drewN ?_ _ | refine Row.other ?_ (by first | (simp; done) | (simp; omega) | omega) _ | refine Row.up ?_ (by assumption) | refine Row.chg ?_ (by assumption) (by first | (simp; done) | (simp; omega))))) hu3; have lB_w3 := RB_w3.lt; have cB_w3_14 : w3.cell? ⟨w.heap.size + 1, 14, none⟩ = some (.int .i64 fn) := RB_w3.cell 14 rfl; have cB_w3_15 : w3.cell? ⟨w.heap.size + 1, 15, none⟩ = some (.int .i64 m.a) := RB_w3.cell 15 rfl; have cB_w3_16 : w3.cell? ⟨w.heap.size + 1, 16, none⟩ = some (.int .i64 m.b) := RB_w3.cell 16 rfl; have cB_w3_17 : w3.cell? ⟨w.heap.size + 1, 17, none⟩ = some (.int .i64 m.c) := RB_w3.cell 17 rfl; have cB_w3_18 : w3.cell? ⟨w.heap.size + 1, 18, none⟩ = some (.int .i64 m.d) := RB_w3.cell 18 rfl; have cB_w3_19 : w3.cell? ⟨w.heap.size + 1, 19, none⟩ = some (.int .i64 m.x) := RB_w3.cell 19 rfl; have cB_w3_20 : w3.cell? ⟨w.heap.size + 1, 20, none⟩ = some (.int .i64 m.y) := RB_w3.cell 20 rfl; have cB_w3_21 : w3.cell? ⟨w.heap.size + 1, 21, none⟩ = some (.slice ba2 bl bc2) := RB_w3.cell 21 rfl; have z3 := hu3.size))
    | (go_at_call 31; ((with_reducible refine (sameB_calls _ _ bl _ _ bs _ HBL.out hbl (HB1.out.up (by (repeat' (first | (with_reducible first | exact Up.refl _ | assumption | refine Up.alloc ?_ _ | refine Up.drew ?_ | refine Up.drewN ?_ _ | refine Up.setCell ?_ ?_ _ | refine Up.call ?_ (by assumption)) | go_size)))) (HB2.out.up (by (repeat' (first | (with_reducible first | exact Up.refl _ | assumption | refine Up.alloc ?_ _ | refine Up.drew ?_ | refine Up.drewN ?_ _ | refine Up.setCell ?_ ?_ _ | refine Up.call ?_ (by assumption)) | go_size))))).mono ?_); rintro E w4 ⟨rfl, hu4⟩)))
  go_ret
  exact ⟨rfl, by (repeat' (first | (with_reducible first | exact Up.refl _ | assumption | refine Up.alloc ?_ _ | refine Up.drew ?_ | refine Up.drewN ?_ _ | refine Up.setCell ?_ ?_ _ | refine Up.call ?_ (by assumption)) | go_size))⟩
theorem sameItem_eq (i j : Item) (w : World) (h : i.is w) (h2 : j.is w) (he : i.dat = j.dat) (hl : Lens i.dat) :
    Calls Tryd.prog 16 #[.agg i.cells.toArray, .agg j.cells.toArray] w fun E w' => E = .returned (.bool true) ∧ Up w w' := by
  obtain ⟨k, pv, l, sp, p0, p1, p2, p3, cv, cs, wd, cp, jn, mt, dv, ds, ph, fn, m, bv, bs⟩ := i
  obtain ⟨k2, pv2, l2, sp2, p02, p12, p22, p32, cv2, cs2, wd2, cp2, jn2, mt2, dv2, ds2, ph2, fn2, m2, bv2, bs2⟩ := j
  simp only [Item.dat, Dat.mk.injEq, Prod.mk.injEq] at he
  obtain ⟨rfl, rfl, ⟨rfl, rfl, rfl, rfl, rfl⟩, hc, ⟨rfl, rfl, rfl, rfl⟩, rfl, rfl, rfl, rfl, rfl⟩ := he
  obtain ⟨hp, ⟨ca, cl, cc, e2, hs, hv⟩, hd, hb⟩ := h
  obtain ⟨hp2, ⟨ca2, cl2, cc2, e22, hs2, hv2⟩, hd2, hb2⟩ := h2
  obtain ⟨l1, l2, l3, l4, l5⟩ := hl
  simp only [Item.dat, List.length_map] at l1 l2 l3 l4 l5
  simp only at hp hp2 hs hs2 hv hv2 hd hd2 hb hb2 e2 e22
  obtain ⟨pa, pc, rfl⟩ := segV_len hp
  obtain ⟨pa2, pc2, rfl⟩ := segV_len hp2
  obtain ⟨da, dc, rfl, _⟩ := id hd
  obtain ⟨da2, dc2, rfl, _⟩ := id hd2
  obtain ⟨ba, bc, rfl, _⟩ := id hb
  obtain ⟨ba2, bc2, rfl, _⟩ := id hb2
  subst e2 e22
  have hcl : cl2 = cl := by
    have h1 := congrArg List.length hc
    rw [List.length_map, List.length_map, hs.2.2.1, hs2.2.2.1] at h1
    exact h1.symm
  subst hcl
  exact sameItem_x k sp p0 p1 p2 p3 wd cp jn mt ph fn m pa pa2 ca ca2 da da2 ba ba2 l.length pc pc2 cl2 cc cc2 ds.length dc dc2 bs.length bc bc2 l cs cs2 ds bs w hp hp2 hs hs2 hv hv2 hc hd hd2 hb hb2 rfl rfl (by omega) (by omega)

end Go.Proofs.YteddlahklilncaaDoor.Pt
end

section
namespace Go.Proofs.YteddlahklilncaaDoor.Pt
open Go.ChangeShapes Go.WideShapes Go.ChangeAt Go.RowKit
open Go.Proofs.YteddlahklilncaaDoor.FixM (fits)
open Go.Proofs.YteddlahklilncaaDoor.PathM (Seg sound)
open Go.Proofs.YteddlahklilncaaDoor.MatM (M6)
set_option linter.unusedVariables false
set_option linter.unusedSimpArgs false
open Go.Proofs.YteddlahklilncaaDoor.PathM (segCells)

section
variable {H : Type} {enc : TypeId × Value → H} {W : World} {base : Nat} {spare : Nat → Bool} {held : Bool}
theorem segs_open2 {fuel : Nat} {cs : List Value} {y : DataW H × List MemPlace} (h : DataW.trod enc Tryd.prog W base spare held fuel 25 cs = some y) : ∃ v l, cs = [v] ∧ Path.SegV W v l ∧ Src W v 7 l.length (segCells l) := by
  obtain ⟨a, len, cap, l, e, h1, -⟩ := sl_open (⟨0, (0, 0), (0, 0), (0, 0)⟩ : Seg) 7 PathM.Seg.cells (fun _ => True) Tryd.underlying25 cSeg (by decide) (fun s => rfl) (fun _ _ _ h => by obtain ⟨s, e, -⟩ := seg_open h; exact ⟨s, e, trivial⟩) h
  have h2 := src_sl (K := 7) (cells := PathM.Seg.cells) (by decide) (fun s => rfl) h1
  have h3 := h1.2.2.1
  exact ⟨_, l, e, sl_segV h1, by rw [h3]; exact h2⟩
set_option maxRecDepth 8000 in
theorem clip_open2 {fuel : Nat} {cs : List Value} {y : DataW H × List MemPlace} (h : DataW.trod enc Tryd.prog W base spare held fuel 60 cs = some y) : ∃ c : Clip, cs = c.cells ∧ Path.SegV W c.v c.l ∧ Src W c.v 7 c.l.length (segCells c.l) := by
  obtain ⟨n, hl, hF⟩ := trod_field Tryd.underlying60 h
  clear h
  rw [ptClip] at hl
  match cs, hl with
  | [c0, c1], _ =>
    obtain ⟨y0, h0⟩ := hF 0 _ rfl
    obtain ⟨y1, h1⟩ := hF 1 _ rfl
    simp [ptSegs, ptB] at h0 h1
    obtain ⟨v, l, e0, hs⟩ := segs_open2 h0
    obtain ⟨b, e1, -⟩ := DataW.trod_bool Tryd.underlying4 h1
    simp at e0 e1
    subst e0 e1
    exact ⟨⟨c0, l, b⟩, rfl, hs⟩
theorem clips_open2 {fuel : Nat} {cs : List Value} {y : DataW H × List MemPlace} (h : DataW.trod enc Tryd.prog W base spare held fuel 29 cs = some y) : ∃ v l, cs = [v] ∧ ClipV W v l ∧ ∀ c ∈ l, Src W c.v 7 c.l.length (segCells c.l) := by
  obtain ⟨a, len, cap, l, e, h1, h2⟩ := sl_open (⟨.slice none 0 0, [], false⟩ : Clip) 2 Clip.cells (fun c => Path.SegV W c.v c.l ∧ Src W c.v 7 c.l.length (segCells c.l)) Tryd.underlying29 ptClip (by decide) (fun s => rfl) (fun _ _ _ h => clip_open2 h) h
  exact ⟨_, l, e, ⟨a, len, cap, rfl, h1, fun c hc => (h2 c hc).1⟩, fun c hc => (h2 c hc).2⟩
theorem ints_wf {k : IntKind} {w : World} {v : Value} {zs : List Int} (h : Ints k w v zs) : ∀ z ∈ zs, (Lit.int k z).wf = true := by
  obtain ⟨ao, c', e, hl, hm, hno, h1, hw⟩ := h
  exact hw
set_option maxRecDepth 8000 in
theorem item_open2 {fuel : Nat} {cs : List Value} {y : DataW H × List MemPlace} (h : DataW.trod enc Tryd.prog W base spare held fuel 36 cs = some y) : ∃ i : Item, cs = i.cells ∧ i.is W ∧ ItemA W i := by
  obtain ⟨n, hl, hF⟩ := trod_field Tryd.underlying36 h
  clear h
  rw [ptItem] at hl
  match cs, hl with
  | [c0, c1, c2, c3, c4, c5, c6, c7, c8, c9, c10, c11, c12, c13, c14, c15, c16, c17, c18, c19, c20, c21], _ =>
    obtain ⟨y0, h0⟩ := hF 0 _ rfl
    obtain ⟨y1, h1⟩ := hF 1 _ rfl
    obtain ⟨y2, h2⟩ := hF 2 _ rfl
    obtain ⟨y3, h3⟩ := hF 3 _ rfl
    obtain ⟨y4, h4⟩ := hF 4 _ rfl
    obtain ⟨y5, h5⟩ := hF 5 _ rfl
    obtain ⟨y6, h6⟩ := hF 6 _ rfl
    obtain ⟨y7, h7⟩ := hF 7 _ rfl
    simp [ptInt, ptSegs, ptCol, ptClips, ptPen, ptM, ptBs] at h0 h1 h2 h3 h4 h5 h6 h7
    obtain ⟨k, e0, -, -⟩ := DataW.trod_int Tryd.underlying3 h0
    obtain ⟨v1, l, e1, hs, hs2⟩ := segs_open2 h1
    obtain ⟨sp, p0, p1, p2, p3, e2, e3, e4, e5, e6⟩ := col_open h2
    obtain ⟨v7, cl, e7, hc, hc2⟩ := clips_open2 h3
    obtain ⟨wd, cap, jn, mt, ph, ds, e8, e9, e10, e11, hd, e13⟩ := pen_open h4
    obtain ⟨fn, e14, -, -⟩ := DataW.trod_int Tryd.underlying3 h5
    obtain ⟨m, e15, e16, e17, e18, e19, e20⟩ := mat_open h6
    obtain ⟨v21, bs, e21, hb⟩ := ints_open Tryd.underlying34 Tryd.underlying5 ptU h7
    simp at e0 e1 e7 e14 e21
    subst e0 e1 e2 e3 e4 e5 e6 e7 e8 e9 e10 e11 e13 e14 e15 e16 e17 e18 e19 e20 e21
    exact ⟨⟨k, c1, l, sp, p0, p1, p2, p3, c7, cl, wd, cap, jn, mt, c12, ds, ph, fn, m, c21, bs⟩, rfl, ⟨hs, hc, hd, hb⟩, ⟨hs2, src_ints hb, src_ints hd, (by obtain ⟨a, len, cap, e, h1, h2⟩ := hc; exact ⟨a, len, cap, e, h1⟩), hc2, ints_wf hd, ints_wf hb⟩⟩
end

def lightR (pl bl cl dl : Nat) : Bool := decide ((pl : Int) ≤ 300) && (decide ((bl : Int) ≤ 300) && (decide ((cl : Int) ≤ 30) && decide ((dl : Int) ≤ 100)))
set_option maxRecDepth 16000 in
set_option maxHeartbeats 2000000 in
theorem light_calls (k sp p0 p1 p2 p3 wd cp jn mt ph fn : Int) (m : M6) (pa ca da ba : Option Addr) (pl pc cl cc dl dc bl bc : Nat) (w : World) :
    Calls Tryd.prog 9 #[.agg #[.int .i64 0, .int .i64 0, .int .i64 0, .slice none 0 0, .int .i64 k, .slice pa pl pc, .int .i64 sp, .int .i64 p0, .int .i64 p1, .int .i64 p2, .int .i64 p3, .slice ca cl cc, .int .i64 wd, .int .i64 cp, .int .i64 jn, .int .i64 mt, .slice da dl dc, .int .i64 ph, .int .i64 fn, .int .i64 m.a, .int .i64 m.b, .int .i64 m.c, .int .i64 m.d, .int .i64 m.x, .int .i64 m.y, .slice ba bl bc, .int .i64 0, .int .i64 0, .int .i64 0, .int .i64 0, .int .i64 0, .int .i64 0, .slice none 0 0]] w fun E w' => E = .returned (.bool (lightR pl bl cl dl)) ∧ Up w w' := by
  obtain ⟨b_h1, h1⟩ : ∃ b, (decide ((pl : Int) ≤ 300)) = b := ⟨_, rfl⟩
  cases b_h1
  · go_enter Tryd.func9, Tryd.ntmps9
    go_wp2
    go_ret
    exact ⟨by simp [lightR, h1], by (repeat' (first | (with_reducible first | exact Up.refl _ | assumption | refine Up.alloc ?_ _ | refine Up.drew ?_ | refine Up.drewN ?_ _ | refine Up.setCell ?_ ?_ _ | refine Up.call ?_ (by assumption)) | go_size))⟩
  obtain ⟨b_h2, h2⟩ : ∃ b, (decide ((bl : Int) ≤ 300)) = b := ⟨_, rfl⟩
  cases b_h2
  · go_enter Tryd.func9, Tryd.ntmps9
    go_wp2
    go_ret
    exact ⟨by simp [lightR, h1, h2], by (repeat' (first | (with_reducible first | exact Up.refl _ | assumption | refine Up.alloc ?_ _ | refine Up.drew ?_ | refine Up.drewN ?_ _ | refine Up.setCell ?_ ?_ _ | refine Up.call ?_ (by assumption)) | go_size))⟩
  obtain ⟨b_h3, h3⟩ : ∃ b, (decide ((cl : Int) ≤ 30)) = b := ⟨_, rfl⟩
  cases b_h3
  · go_enter Tryd.func9, Tryd.ntmps9
    go_wp2
    go_ret
    exact ⟨by simp [lightR, h1, h2, h3], by (repeat' (first | (with_reducible first | exact Up.refl _ | assumption | refine Up.alloc ?_ _ | refine Up.drew ?_ | refine Up.drewN ?_ _ | refine Up.setCell ?_ ?_ _ | refine Up.call ?_ (by assumption)) | go_size))⟩
  obtain ⟨b_h4, h4⟩ : ∃ b, (decide ((dl : Int) ≤ 100)) = b := ⟨_, rfl⟩
  cases b_h4
  · go_enter Tryd.func9, Tryd.ntmps9
    go_wp2
    go_ret
    exact ⟨by simp [lightR, h1, h2, h3, h4], by (repeat' (first | (with_reducible first | exact Up.refl _ | assumption | refine Up.alloc ?_ _ | refine Up.drew ?_ | refine Up.drewN ?_ _ | refine Up.setCell ?_ ?_ _ | refine Up.call ?_ (by assumption)) | go_size))⟩
  go_enter Tryd.func9, Tryd.ntmps9
  go_wp2
  go_ret
  exact ⟨by simp [lightR, h1, h2, h3, h4], by (repeat' (first | (with_reducible first | exact Up.refl _ | assumption | refine Up.alloc ?_ _ | refine Up.drew ?_ | refine Up.drewN ?_ _ | refine Up.setCell ?_ ?_ _ | refine Up.call ?_ (by assumption)) | go_size))⟩

end Go.Proofs.YteddlahklilncaaDoor.Pt
end

section
namespace Go.Proofs.YteddlahklilncaaDoor.Pt
open Go.ChangeShapes Go.WideShapes Go.ChangeAt Go.RowKit
open Go.Proofs.YteddlahklilncaaDoor.FixM (fits)
open Go.Proofs.YteddlahklilncaaDoor.PathM (Seg sound)
open Go.Proofs.YteddlahklilncaaDoor.MatM (M6)
set_option linter.unusedVariables false
set_option linter.unusedSimpArgs false
open Go.Proofs.YteddlahklilncaaDoor.PathM (segCells)

theorem mem_own {v : Value} {g : Nat} (h : g ∈ own v) : v.ownBlock = some g := by
  unfold own at h
  cases e : v.ownBlock with
  | none => rw [e] at h; cases h
  | some b => rw [e] at h; simp at h; rw [h]
theorem ItemO.lt {w : World} {i : Item} (h : ItemO w i) : ∀ b ∈ i.bl, b < w.heap.size := fun b hb => by
  simp only [Item.bl, List.mem_append, List.mem_flatMap] at hb
  rcases hb with h1 | h1 | h1 | h1 | ⟨c, hc, h1⟩
  · exact (h.pv.lt b (mem_own h1)).2
  · exact (h.bv.lt b (mem_own h1)).2
  · exact (h.dv.lt b (mem_own h1)).2
  · exact (h.cv.lt b (mem_own h1)).2
  · exact ((h.cs c hc).lt b (mem_own h1)).2
theorem clipsR_map (l : List Clip) : clipsR l = (decide ((l.map (fun c => (c.l, c.eo))).length ≤ 16) && (l.map (fun c => (c.l, c.eo))).all (fun p => !(p.1.length == 0) && sound p.1)) := by
  unfold clipsR
  rw [List.length_map, List.all_map]
  rfl
theorem itemR_dat {i j : Item} (h : i.dat = j.dat) : itemR i = itemR j := by
  obtain ⟨k, pv, l, sp, p0, p1, p2, p3, cv, cs, wd, cp, jn, mt, dv, ds, ph, fn, m, bv, bs⟩ := i
  obtain ⟨k2, pv2, l2, sp2, p02, p12, p22, p32, cv2, cs2, wd2, cp2, jn2, mt2, dv2, ds2, ph2, fn2, m2, bv2, bs2⟩ := j
  simp only [Item.dat, Dat.mk.injEq, Prod.mk.injEq] at h
  obtain ⟨rfl, rfl, ⟨rfl, rfl, rfl, rfl, rfl⟩, hc, ⟨rfl, rfl, rfl, rfl⟩, rfl, rfl, rfl, rfl, rfl⟩ := h
  have h2 : clipsR cs = clipsR cs2 := by rw [clipsR_map, clipsR_map, hc]
  unfold itemR
  simp only [h2]
theorem lens_of {i : Item} (hr : itemR i = true) (hL : lightR i.l.length i.bs.length i.cl.length i.ds.length = true) : Lens i.dat := by
  have hk : clipsR i.cl = true := by
    cases h : clipsR i.cl
    · simp [itemR, itemB, h] at hr
    · rfl
  unfold lightR at hL
  simp only [Bool.and_eq_true, decide_eq_true_eq] at hL
  obtain ⟨a1, a2, a3, a4⟩ := hL
  unfold clipsR at hk
  simp only [Bool.and_eq_true, decide_eq_true_eq, List.all_eq_true] at hk
  refine ⟨?_, ?_, ?_, ?_, fun c hc => ?_⟩
  · show i.l.length ≤ 10000; omega
  · show i.bs.length ≤ 100000; omega
  · show i.ds.length ≤ 10000; omega
  · show (i.cl.map _).length ≤ 100; rw [List.length_map]; omega
  · obtain ⟨c', h1, rfl⟩ := List.mem_map.1 hc
    have h2 := hk.2 c' h1
    unfold clipOk at h2
    simp only [Bool.and_eq_true] at h2
    have h3 := h2.2
    unfold PathM.sound at h3
    simp only [Bool.and_eq_true, decide_eq_true_eq] at h3
    show c'.l.length ≤ 10000
    omega
theorem add_item (x : Item) (W H n : Int) (c : Nat) (w : World) (hr : Row w c #[.int .i64 W, .int .i64 H, .slice none 0 0, .int .i64 n, .slice none 0 0]) (h : ItemO w x) (hl : Lens x.dat) (hok : itemR x = true) (hT : Font.Tab w) :
    Calls Tryd.prog 12 #[.pointer (some ⟨c, 0, none⟩), .agg x.cells.toArray] w fun E w' => E = .returned (.int .i64 0) ∧ ∃ (j : Item) (g cap : Nat), j.dat = x.dat ∧ Row w' c #[.int .i64 W, .int .i64 H, .slice (some ⟨g, 0, none⟩) 1 cap, .int .i64 n, .slice none 0 0] ∧ One1 w' w.heap.size g cap j ∧ Chg [c] w w' := by
  have ha := h.a
  obtain ⟨pa, pl, pc, ca, cl, cc, da, dl, dc, ba, bl, bc, e1, e2, e3, e4, hLs⟩ := item_lists h.is
  clear h
  obtain ⟨k, pv, l, sp, p0, p1, p2, p3, cv, cs, wd, cp, jn, mt, dv, ds, ph, fn, m, bv, bs⟩ := x
  simp only at e1 e2 e3 e4
  subst e1 e2 e3 e4
  refine (add_first k pa pl pc sp p0 p1 p2 p3 ca cl cc wd cp jn mt da dl dc ph fn m ba bl bc l cs ds bs W H n c w hr ha hLs hl hok hT).mono ?_
  rintro E w' ⟨rfl, j, h1, g, cap, h2, h3, h4, h5, h6⟩
  exact ⟨rfl, j, g, cap, h1, h2, ⟨h4, h3, fun b hb => (h5 b hb).2, fun b hb => ⟨(h5 b hb).1, h3.lt b hb⟩⟩, h6⟩
theorem cells_one {w : World} {x : Item} (h : x.is w) : x.cells.toArray.all (·.oneCell') = true := by
  obtain ⟨pa, pl, pc, ca, cl, cc, da, dl, dc, ba, bl, bc, e1, e2, e3, e4, -⟩ := item_lists h
  obtain ⟨k, pv, l, sp, p0, p1, p2, p3, cv, cs, wd, cp, jn, mt, dv, ds, ph, fn, m, bv, bs⟩ := x
  simp only at e1 e2 e3 e4
  subst e1 e2 e3 e4
  simp [Item.cells, Value.oneCell']
/-- an owned item behind a change of blocks that are all new -/
theorem up_new {S : List Nat} {w w1 w2 : World} (hu : Up w w1) (hc : Chg S w1 w2) (hn : ∀ b ∈ S, w.heap.size ≤ b) : Up w w2 := ((Chg.of_up (S := []) hu).call hc (fun k hk => Or.inr (hn k hk))).up

end Go.Proofs.YteddlahklilncaaDoor.Pt
end
