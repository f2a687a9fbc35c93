/- The reference's comparisons of what is the same; law 14's alike of two states that say the same. No condition. GstateBalanced, walked. Its condition: the fonts' names as laid. -/
import Derived.Test.YtoflafbhfoncmaaDoorGD
import Derived.Test.YtoflafbhfoncmaaDoorGPathS
import Derived.Test.YtoflafbhfoncmaaDoorEq6
import Derived.Test.YtoflafbhfoncmaaDoorEqS
import Derived.BigQuiet
import Derived.Deep.RegionHeld3
import Derived.Test.YtoflafbhfoncmaaDoorGE
import Derived.Deep.CutBlock
section
namespace Go.Proofs.YtoflafbhfoncmaaDoor.Pt
open Go.ChangeShapes Go.WideShapes Go.ChangeAt Go.RowKit
open Go.Proofs.YtoflafbhfoncmaaDoor.FixM (fits)
open Go.Proofs.YtoflafbhfoncmaaDoor.PathM (Seg)
open Go.Proofs.YtoflafbhfoncmaaDoor.MatM (M6)
set_option linter.unusedVariables false
set_option linter.unusedSimpArgs false

theorem ints_at {k : IntKind} {w : World} {a : Option Addr} {N c : Nat} {zs : List Int} (h : Ints k w (.slice a N c) zs) (hN : zs.length = N) (h0 : 0 < N) : ∃ g o, a = some ⟨g, o, none⟩ ∧ g < w.heap.size ∧ ∀ i, i < N → w.cell? ⟨g, o + i, none⟩ = some (.int k (zs.getD i 0)) := by
  obtain ⟨ao, c', e, hl, hm, hno, h1, hw⟩ := h
  injection e with e1 e2 e3
  subst e1 e3
  obtain ⟨g, o, h2, h3, h4⟩ := h1 (by omega)
  exact ⟨g, o, h2, h3, fun i hi => h4 i (by omega)⟩

theorem sameI_nil (a1 a2 : Option Addr) (c1 c2 : Nat) (w : World) : Calls Tryd.prog 57 #[.slice a1 0 c1, .slice a2 0 c2] w fun E w' => E = .returned (.bool true) ∧ Up w w' := by
  go_enter Tryd.func57, Tryd.ntmps57
  go_wp2
  go_loop [5] (fun s5 => s5 = .int .i64 0) (fun _ => 0)
  case atStart => rfl
  case round =>
    obtain rfl := hrel
    go_wp2
    go_ret
    exact ⟨rfl, by (repeat' (first | (with_reducible first | exact Up.refl _ | assumption | refine Up.alloc ?_ _ | refine Up.drew ?_ | refine Up.drewN ?_ _ | refine Up.setCell ?_ ?_ _ | refine Up.call ?_ (by assumption)) | go_size))⟩
theorem sameI_calls (a1 a2 : Option Addr) (N c1 c2 : Nat) (zs : List Int) (w : World) (hN : zs.length = N) (hl : N ≤ 1000000000) (h1 : Ints .i64 w (.slice a1 N c1) zs) (h2 : Ints .i64 w (.slice a2 N c2) zs) :
    Calls Tryd.prog 57 #[.slice a1 N c1, .slice a2 N c2] w fun E w' => E = .returned (.bool true) ∧ Up w w' := by
  by_cases h0 : 0 < N
  rotate_left
  · obtain rfl : N = 0 := by omega
    exact sameI_nil a1 a2 c1 c2 w
  obtain ⟨g1, o1, rfl, hg1, hc1⟩ := ints_at h1 hN h0
  obtain ⟨g2, o2, rfl, hg2, hc2⟩ := ints_at h2 hN h0
  have HC1 := Lib.hid hc1
  have HC2 := Lib.hid hc2
  clear h1 h2 hc1 hc2 h0 hN
  go_enter Tryd.func57, Tryd.ntmps57
  go_wp2
  go_loopw [5] (fun i wr => ∃ k : Nat, k ≤ N ∧ i = .int .i64 k ∧ Up w wr) (fun i _ => N - (intOf i).toNat)
  case atStart => exact ⟨0, Nat.zero_le _, rfl, Up.refl _⟩
  case round =>
    obtain ⟨k, hk, rfl, hup⟩ := hrel
    by_cases hlt : k < N
    · obtain ⟨x, hx⟩ : ∃ x, zs.getD k 0 = x := ⟨_, rfl⟩
      have hq1 := (hup.cells.1 g1 (o1 + k) hg1).trans (HC1.out k hlt)
      have hq2 := (hup.cells.1 g2 (o2 + k) hg2).trans (HC2.out k hlt)
      rw [hx] at hq1 hq2
      clear hx
      have hz := hup.size
      go_wp2
      go_quiet (fail)
      go_wp2
      go_roundw
      case rel => exact ⟨k + 1, by omega, by go_num, by (repeat' (first | (with_reducible first | exact Up.refl _ | assumption | refine Up.alloc ?_ _ | refine Up.drew ?_ | refine Up.drewN ?_ _ | refine Up.setCell ?_ ?_ _ | refine Up.call ?_ (by assumption)) | go_size))⟩
      case measure => simp [intOf]; omega
    · obtain rfl : k = N := by omega
      go_wp2
      go_ret
      exact ⟨rfl, by (repeat' (first | (with_reducible first | exact Up.refl _ | assumption | refine Up.alloc ?_ _ | refine Up.drew ?_ | refine Up.drewN ?_ _ | refine Up.setCell ?_ ?_ _ | refine Up.call ?_ (by assumption)) | go_size))⟩

theorem colF : (Tryd.prog.fieldsOf 36).toList.map (fun f => (f.name != "_", f.offset, f.type)) = [(true, 0, 3), (true, 1, 34)] := by kernel_rfl
theorem colU : Tryd.prog.underlying 36 = some (.struct (Tryd.prog.fieldsOf 36)) := by kernel_rfl
theorem colH : Tryd.prog.stoodInHeld 36 = false := by kernel_rfl
theorem colI : (Tryd.prog.info? 34).isSome = true := by kernel_rfl
theorem colC : Tryd.prog.cellsOf 34 = 4 := by kernel_rfl
theorem eq_col (sp p0 p1 p2 p3 : Int) (w : World) : (Op.equalIn 10000 36 (.agg #[.int .i64 sp, .int .i64 p0, .int .i64 p1, .int .i64 p2, .int .i64 p3]) (.agg #[.int .i64 sp, .int .i64 p0, .int .i64 p1, .int .i64 p2, .int .i64 p3])).run Tryd.prog w = .ok true w := by
  obtain ⟨i, hi⟩ := Option.isSome_iff_exists.1 infoInt
  obtain ⟨i', hi'⟩ := Option.isSome_iff_exists.1 colI
  have arr : (Op.equalIn 9999 34 (.agg #[.int .i64 p0, .int .i64 p1, .int .i64 p2, .int .i64 p3]) (.agg #[.int .i64 p0, .int .i64 p1, .int .i64 p2, .int .i64 p3])).run Tryd.prog w = .ok true w := by
    rw [show (9999 : Nat) = 9998 + 1 from rfl, run_equalIn_array (w := w) 9998 _ _ Tryd.underlying34 hi, cellsInt, show List.range 4 = [0, 1, 2, 3] from rfl]
    rw [item_of (j := 0) (run_part_plain w eqsInt rfl) (run_part_plain w eqsInt rfl) (run_equalIn_int w 9997 _ _ .i64 p0 p0 Tryd.underlying3)]
    rw [item_of (j := 1) (run_part_plain w eqsInt rfl) (run_part_plain w eqsInt rfl) (run_equalIn_int w 9997 _ _ .i64 p1 p1 Tryd.underlying3)]
    rw [item_of (j := 2) (run_part_plain w eqsInt rfl) (run_part_plain w eqsInt rfl) (run_equalIn_int w 9997 _ _ .i64 p2 p2 Tryd.underlying3)]
    rw [item_of (j := 3) (run_part_plain w eqsInt rfl) (run_part_plain w eqsInt rfl) (run_equalIn_int w 9997 _ _ .i64 p3 p3 Tryd.underlying3)]
    simp only [Op.eqItems, Sem.run_pure, beq_self_eq_true, cond_true]
  have pt : ∀ (s a b c d : Value), (part 34 #[s, a, b, c, d] 1).run Tryd.prog w = .ok (.agg #[a, b, c, d]) w := fun s a b c d => by
    rw [run_part_agg Tryd.underlying34 rfl hi', colC]
    rfl
  rw [show (10000 : Nat) = 9999 + 1 from rfl, run_equalIn_struct w 9999 _ _ _ colU colH, eqFields_rows, colF]
  rw [row_of (run_part_plain w eqsInt rfl) (run_part_plain w eqsInt rfl) (run_equalIn_int w 9998 _ _ .i64 sp sp Tryd.underlying3)]
  rw [row_of (pt _ _ _ _ _) (pt _ _ _ _ _) arr]
  simp only [eqRows, Sem.run_pure, beq_self_eq_true, cond_true]

theorem segV_slice {w : World} {v : Value} {l : List Seg} (h : Path.SegV w v l) : ∃ a c, v = .slice a l.length c := by
  rcases h with ⟨a, cap, rfl, rfl⟩ | ⟨b, o, cap, rfl, _⟩
  · exact ⟨a, cap, rfl⟩
  · exact ⟨_, cap, rfl⟩
theorem sameC_nil (a1 a2 : Option Addr) (c1 c2 : Nat) (w : World) : Calls Tryd.prog 42 #[.slice a1 0 c1, .slice a2 0 c2] w fun E w' => E = .returned (.bool true) ∧ Up w w' := by
  go_enter Tryd.func42, Tryd.ntmps42
  go_wp2
  go_loop [5] (fun s5 => s5 = .int .i64 0) (fun _ => 0)
  case atStart => rfl
  case round =>
    obtain rfl := hrel
    go_wp2
    go_ret
    exact ⟨rfl, by (repeat' (first | (with_reducible first | exact Up.refl _ | assumption | refine Up.alloc ?_ _ | refine Up.drew ?_ | refine Up.drewN ?_ _ | refine Up.setCell ?_ ?_ _ | refine Up.call ?_ (by assumption)) | go_size))⟩
set_option maxRecDepth 8000 in
set_option maxHeartbeats 2000000 in
theorem sameC_calls (a1 a2 : Option Addr) (N c1 c2 : Nat) (l1 l2 : List Clip) (w : World) (h1 : Sl 2 Clip.cells w a1 N c1 l1) (h2 : Sl 2 Clip.cells w a2 N c2 l2) (s1 : ∀ c ∈ l1, Path.SegV w c.v c.l) (s2 : ∀ c ∈ l2, Path.SegV w c.v c.l) (he : l1.map (fun c => (c.l, c.eo)) = l2.map (fun c => (c.l, c.eo))) :
    Calls Tryd.prog 42 #[.slice a1 N c1, .slice a2 N c2] w fun E w' => E = .returned (.bool true) ∧ Up w w' := by
  by_cases h0 : 0 < N
  rotate_left
  · obtain rfl : N = 0 := by omega
    exact sameC_nil a1 a2 c1 c2 w
  have hn1 := h1.2.2.1
  have hn2 := h2.2.2.1
  have hmx := h1.2.1
  have hmx0 := h1.1
  obtain ⟨g1, o1, rfl, hg1, hc1⟩ := h1.2.2.2.2 h0
  obtain ⟨g2, o2, rfl, hg2, hc2⟩ := h2.2.2.2.2 h0
  have HC1 := Lib.hid hc1
  have HC2 := Lib.hid hc2
  have HS1 := Lib.hid s1
  have HS2 := Lib.hid s2
  have HE := Lib.hid he
  have HN1 := Lib.hid hn1
  have HN2 := Lib.hid hn2
  clear h1 h2 hc1 hc2 s1 s2 he hn1 hn2
  have hl : N ≤ 9223372036854775807 := by omega
  go_enter Tryd.func42, Tryd.ntmps42
  go_wp2
  go_loopw [5] (fun i wr => ∃ k : Nat, k ≤ N ∧ i = .int .i64 k ∧ Up w wr) (fun i _ => N - (intOf i).toNat)
  case atStart => exact ⟨0, Nat.zero_le _, rfl, Up.refl _⟩
  case round =>
    obtain ⟨k, hk, rfl, hup⟩ := hrel
    by_cases hlt : k < N
    · obtain ⟨x, hx⟩ : ∃ x, l1[k]? = some x := ⟨_, List.getElem?_eq_getElem (by have := HN1.out; omega)⟩
      obtain ⟨y, hy⟩ : ∃ y, l2[k]? = some y := ⟨_, List.getElem?_eq_getElem (by have := HN2.out; omega)⟩
      have hxy : (x.l, x.eo) = (y.l, y.eo) := by
        have h3 : (l1.map (fun c => (c.l, c.eo)))[k]? = (l2.map (fun c => (c.l, c.eo)))[k]? := by rw [HE.out]
        rw [List.getElem?_map, List.getElem?_map, hx, hy] at h3
        exact Option.some.inj h3
      have hsx := HS1.out x (List.mem_of_getElem? hx)
      have hsy := HS2.out y (List.mem_of_getElem? hy)
      have u10 := HC1.out k x 0 _ hx rfl
      have u11 := HC1.out k x 1 _ hx rfl
      have u20 := HC2.out k y 0 _ hy rfl
      have u21 := HC2.out k y 1 _ hy rfl
      obtain ⟨xv, xl, xe⟩ := x
      obtain ⟨yv, yl, ye⟩ := y
      simp only [Prod.mk.injEq] at hxy
      obtain ⟨rfl, rfl⟩ := hxy
      simp only at u10 u11 u20 u21 hsx hsy
      obtain ⟨ax, cx, rfl⟩ := segV_slice hsx
      obtain ⟨ay, cy, rfl⟩ := segV_slice hsy
      generalize hL : xl.length = nl at *
      have HSX := Lib.hid hsx
      have HSY := Lib.hid hsy
      have q10 := (hup.cells.1 g1 _ hg1).trans u10
      have q11 := (hup.cells.1 g1 _ hg1).trans u11
      have q20 := (hup.cells.1 g2 _ hg2).trans u20
      have q21 := (hup.cells.1 g2 _ hg2).trans u21
      simp only [Nat.add_zero] at q10 q20
      clear u10 u11 u20 u21 hx hy hsx hsy hL
      have hz := hup.size
      have hd : (xe != xe) = false := by simp
      go_wp2
      go_region_held3 (fun w' => w'.cell? ⟨g1, o1 + k * 2, none⟩ = some (.slice ax nl cx) ∧ w'.cell? ⟨g1, o1 + k * 2 + 1, none⟩ = some (.bool xe) ∧ w'.cell? ⟨g2, o2 + k * 2, none⟩ = some (.slice ay nl cy) ∧ w'.cell? ⟨g2, o2 + k * 2 + 1, none⟩ = some (.bool xe)) (first | with_reducible exact ⟨x10, x11, x20, x21⟩ | with_reducible exact ⟨q10, q11, q20, q21⟩ | go_keep) ((go_at_call 16; ((with_reducible refine (Path.same_calls _ _ xl xl _ (HSX.out.up (by (repeat' (first | (with_reducible first | exact Up.refl _ | assumption | refine Up.alloc ?_ _ | refine Up.drew ?_ | refine Up.drewN ?_ _ | refine Up.setCell ?_ ?_ _ | refine Up.call ?_ (by assumption)) | go_size)))) (HSY.out.up (by (repeat' (first | (with_reducible first | exact Up.refl _ | assumption | refine Up.alloc ?_ _ | refine Up.drew ?_ | refine Up.drewN ?_ _ | refine Up.setCell ?_ ?_ _ | refine Up.call ?_ (by assumption)) | go_size))))).mono ?_); rw [decide_eq_true (rfl : xl = xl)]; rintro E w1 ⟨rfl, hu1⟩; have z1 := hu1.size; have x10 := cell_up hu1 q10; have x11 := cell_up hu1 q11; have x20 := cell_up hu1 q20; have x21 := cell_up hu1 q21)))
      go_wp2
      go_roundw
      case rel => exact ⟨k + 1, by omega, by go_num, by (repeat' (first | (with_reducible first | exact Up.refl _ | assumption | refine Up.alloc ?_ _ | refine Up.drew ?_ | refine Up.drewN ?_ _ | refine Up.setCell ?_ ?_ _ | refine Up.call ?_ (by assumption)) | go_size))⟩
      case measure => simp [intOf]; omega
    · obtain rfl : k = N := by omega
      go_wp2
      go_ret
      exact ⟨rfl, by (repeat' (first | (with_reducible first | exact Up.refl _ | assumption | refine Up.alloc ?_ _ | refine Up.drew ?_ | refine Up.drewN ?_ _ | refine Up.setCell ?_ ?_ _ | refine Up.call ?_ (by assumption)) | go_size))⟩

set_option maxRecDepth 8000 in
set_option maxHeartbeats 1000000 in
theorem samePen_eq (wd cp jn mt ph : Int) (a1 a2 : Option Addr) (N c1 c2 : Nat) (zs : List Int) (w : World) (hN : zs.length = N) (hl : N ≤ 1000000000) (h1 : Ints .i64 w (.slice a1 N c1) zs) (h2 : Ints .i64 w (.slice a2 N c2) zs) : Calls Tryd.prog 41 #[.agg #[.int .i64 wd, .int .i64 cp, .int .i64 jn, .int .i64 mt, .slice a1 N c1, .int .i64 ph], .agg #[.int .i64 wd, .int .i64 cp, .int .i64 jn, .int .i64 mt, .slice a2 N c2, .int .i64 ph]] w fun E w' => E = .returned (.bool true) ∧ Up w w' := by
  have H1 := Lib.hid h1
  have H2 := Lib.hid h2
  have HN := Lib.hid hN
  clear h1 h2 hN
  go_enter Tryd.func41, Tryd.ntmps41
  go_wp2_with (go_at_call 57; ((with_reducible refine (sameI_calls _ _ N _ _ zs _ HN.out hl (H1.out.up (by (repeat' (first | (with_reducible first | exact Up.refl _ | assumption | refine Up.alloc ?_ _ | refine Up.drew ?_ | refine Up.drewN ?_ _ | refine Up.setCell ?_ ?_ _ | refine Up.call ?_ (by assumption)) | go_size)))) (H2.out.up (by (repeat' (first | (with_reducible first | exact Up.refl _ | assumption | refine Up.alloc ?_ _ | refine Up.drew ?_ | refine Up.drewN ?_ _ | refine Up.setCell ?_ ?_ _ | refine Up.call ?_ (by assumption)) | go_size))))).mono ?_); rintro E w1 ⟨rfl, hu1⟩; have RP_w1 : Row w1 w.heap.size #[.int .i64 wd, .int .i64 cp, .int .i64 jn, .int .i64 mt, .slice a1 N c1, .int .i64 ph] := Row.up (show Row _ w.heap.size #[.int .i64 wd, .int .i64 cp, .int .i64 jn, .int .i64 mt, .slice a1 N c1, .int .i64 ph] by (repeat' (with_reducible first | assumption | (refine Row.at _ _ ?_; (simp; done)) | refine Row.alloc ?_ _ | refine Row.drew ?_ | refine Row.drewN ?_ _ | refine Row.other ?_ (by first | (simp; done) | (simp; omega) | omega) _ | refine Row.up ?_ (by assumption) | refine Row.chg ?_ (by assumption) (by first | (simp; done) | (simp; omega))))) hu1; have lP_w1 := RP_w1.lt; have cP_w1_5 : w1.cell? ⟨w.heap.size, 5, none⟩ = some (.int .i64 ph) := RP_w1.cell 5 rfl; have RQ_w1 : Row w1 (w.heap.size + 1) #[.int .i64 wd, .int .i64 cp, .int .i64 jn, .int .i64 mt, .slice a2 N c2, .int .i64 ph] := Row.up (show Row _ (w.heap.size + 1) #[.int .i64 wd, .int .i64 cp, .int .i64 jn, .int .i64 mt, .slice a2 N c2, .int .i64 ph] by (repeat' (with_reducible first | assumption | (refine Row.at _ _ ?_; (simp; done)) | refine Row.alloc ?_ _ | refine Row.drew ?_ | refine Row.drewN ?_ _ | refine Row.other ?_ (by first | (simp; done) | (simp; omega) | omega) _ | refine Row.up ?_ (by assumption) | refine Row.chg ?_ (by assumption) (by first | (simp; done) | (simp; omega))))) hu1; have lQ_w1 := RQ_w1.lt; have cQ_w1_5 : w1.cell? ⟨w.heap.size + 1, 5, none⟩ = some (.int .i64 ph) := RQ_w1.cell 5 rfl))
  go_ret
  exact ⟨rfl, by (repeat' (first | (with_reducible first | exact Up.refl _ | assumption | refine Up.alloc ?_ _ | refine Up.drew ?_ | refine Up.drewN ?_ _ | refine Up.setCell ?_ ?_ _ | refine Up.call ?_ (by assumption)) | go_size))⟩

end Go.Proofs.YtoflafbhfoncmaaDoor.Pt
namespace Go.Proofs.YtoflafbhfoncmaaDoor.Gt
open Go.ChangeShapes Go.WideShapes Go.ChangeAt Go.RowKit
open Go.Proofs.YtoflafbhfoncmaaDoor.FixM (fits)
open Go.Proofs.YtoflafbhfoncmaaDoor.MatM (M6)
open Go.Proofs.YtoflafbhfoncmaaDoor.PathM (Seg St Z segCells)
open Go.Proofs.YtoflafbhfoncmaaDoor.Path (own own_mem own_of PathIs Segs)
open Go.Proofs.YtoflafbhfoncmaaDoor.Pt (Clip clipCells Src)
set_option linter.unusedVariables false
set_option linter.unusedSimpArgs false

set_option maxRecDepth 8000 in
set_option maxHeartbeats 2000000 in
theorem alike_cells (cm : M6) (sp p0 p1 p2 p3 wd cp jn mt : Int) (da ea : Option Addr) (dl dc ec : Nat) (ph fn : Int) (fm : M6) (ca fa : Option Addr) (cl cc fc : Nat) (dk : Bool) (zs : List Int) (l1 l2 : List Clip) (w : World) (hN : zs.length = dl) (hl : dl ≤ 1000000000) (d1 : Ints .i64 w (.slice da dl dc) zs) (d2 : Ints .i64 w (.slice ea dl ec) zs)
    (c1 : Sl 2 Clip.cells w ca cl cc l1) (c2 : Sl 2 Clip.cells w fa cl fc l2) (s1 : ∀ c ∈ l1, Path.SegV w c.v c.l) (s2 : ∀ c ∈ l2, Path.SegV w c.v c.l) (he : l1.map (fun c => (c.l, c.eo)) = l2.map (fun c => (c.l, c.eo))) :
    Calls Tryd.prog 15 #[.agg #[.int .i64 cm.a, .int .i64 cm.b, .int .i64 cm.c, .int .i64 cm.d, .int .i64 cm.x, .int .i64 cm.y, .int .i64 sp, .int .i64 p0, .int .i64 p1, .int .i64 p2, .int .i64 p3, .int .i64 wd, .int .i64 cp, .int .i64 jn, .int .i64 mt, .slice da dl dc, .int .i64 ph, .int .i64 fn, .int .i64 fm.a, .int .i64 fm.b, .int .i64 fm.c, .int .i64 fm.d, .int .i64 fm.x, .int .i64 fm.y, .slice ca cl cc, .bool dk], .agg #[.int .i64 cm.a, .int .i64 cm.b, .int .i64 cm.c, .int .i64 cm.d, .int .i64 cm.x, .int .i64 cm.y, .int .i64 sp, .int .i64 p0, .int .i64 p1, .int .i64 p2, .int .i64 p3, .int .i64 wd, .int .i64 cp, .int .i64 jn, .int .i64 mt, .slice ea dl ec, .int .i64 ph, .int .i64 fn, .int .i64 fm.a, .int .i64 fm.b, .int .i64 fm.c, .int .i64 fm.d, .int .i64 fm.x, .int .i64 fm.y, .slice fa cl fc, .bool dk]] w fun E w' => E = .returned (.bool true) ∧ Up w w' := by
  have e1 : ∀ W, (Op.equalIn 10000 26 (.agg #[.int .i64 cm.a, .int .i64 cm.b, .int .i64 cm.c, .int .i64 cm.d, .int .i64 cm.x, .int .i64 cm.y]) (.agg #[.int .i64 cm.a, .int .i64 cm.b, .int .i64 cm.c, .int .i64 cm.d, .int .i64 cm.x, .int .i64 cm.y])).run Tryd.prog W = .ok true W := fun W => by rw [run_eq6]; simp [all6]
  have e2 := Pt.eq_col sp p0 p1 p2 p3
  have e3 : ∀ W, (Op.equalIn 10000 26 (.agg #[.int .i64 fm.a, .int .i64 fm.b, .int .i64 fm.c, .int .i64 fm.d, .int .i64 fm.x, .int .i64 fm.y]) (.agg #[.int .i64 fm.a, .int .i64 fm.b, .int .i64 fm.c, .int .i64 fm.d, .int .i64 fm.x, .int .i64 fm.y])).run Tryd.prog W = .ok true W := fun W => by rw [run_eq6]; simp [all6]
  have e4 : (fn == fn) = true := by simp
  have e5 : (dk == dk) = true := by simp
  have HN := Lib.hid hN
  have D1 := Lib.hid d1
  have D2 := Lib.hid d2
  have C1 := Lib.hid c1
  have C2 := Lib.hid c2
  have S1 := Lib.hid s1
  have S2 := Lib.hid s2
  have HE := Lib.hid he
  clear hN d1 d2 c1 c2 s1 s2 he
  go_enter Tryd.func15, Tryd.ntmps15
  go_wp2_with (first
    | (go_at_call 41; ((with_reducible refine (Pt.samePen_eq _ _ _ _ _ _ _ dl _ _ zs _ HN.out hl (D1.out.up (by (repeat' (first | (with_reducible first | exact Up.refl _ | assumption | refine Up.alloc ?_ _ | refine Up.drew ?_ | refine Up.drewN ?_ _ | refine Up.setCell ?_ ?_ _ | refine Up.call ?_ (by assumption)) | go_size)))) (D2.out.up (by (repeat' (first | (with_reducible first | exact Up.refl _ | assumption | refine Up.alloc ?_ _ | refine Up.drew ?_ | refine Up.drewN ?_ _ | refine Up.setCell ?_ ?_ _ | refine Up.call ?_ (by assumption)) | go_size))))).mono ?_); rintro E w1 ⟨rfl, hu1⟩; have z1 := hu1.size; (try simp at z1); have W10 : Row w1 (w.heap.size) #[.int .i64 cm.a, .int .i64 cm.b, .int .i64 cm.c, .int .i64 cm.d, .int .i64 cm.x, .int .i64 cm.y, .int .i64 sp, .int .i64 p0, .int .i64 p1, .int .i64 p2, .int .i64 p3, .int .i64 wd, .int .i64 cp, .int .i64 jn, .int .i64 mt, .slice da dl dc, .int .i64 ph, .int .i64 fn, .int .i64 fm.a, .int .i64 fm.b, .int .i64 fm.c, .int .i64 fm.d, .int .i64 fm.x, .int .i64 fm.y, .slice ca cl cc, .bool dk] := Row.up (show Row _ (w.heap.size) #[.int .i64 cm.a, .int .i64 cm.b, .int .i64 cm.c, .int .i64 cm.d, .int .i64 cm.x, .int .i64 cm.y, .int .i64 sp, .int .i64 p0, .int .i64 p1, .int .i64 p2, .int .i64 p3, .int .i64 wd, .int .i64 cp, .int .i64 jn, .int .i64 mt, .slice da dl dc, .int .i64 ph, .int .i64 fn, .int .i64 fm.a, .int .i64 fm.b, .int .i64 fm.c, .int .i64 fm.d, .int .i64 fm.x, .int .i64 fm.y, .slice ca cl cc, .bool dk] by (repeat' (with_reducible first | assumption | (refine Row.at _ _ ?_; (simp; done)) | refine Row.alloc ?_ _ | refine Row.drew ?_ | refine Row.drewN ?_ _ | refine Row.other ?_ (by first | (simp; done) | (simp; omega) | omega) _ | refine Row.up ?_ (by assumption) | refine Row.chg ?_ (by assumption) (by first | (simp; done) | (simp; omega))))) hu1; have w10_17 : w1.cell? ⟨w.heap.size, 17, none⟩ = some (.int .i64 fn) := W10.cell 17 rfl; have w10_18 : w1.cell? ⟨w.heap.size, 18, none⟩ = some (.int .i64 fm.a) := W10.cell 18 rfl; have w10_19 : w1.cell? ⟨w.heap.size, 19, none⟩ = some (.int .i64 fm.b) := W10.cell 19 rfl; have w10_20 : w1.cell? ⟨w.heap.size, 20, none⟩ = some (.int .i64 fm.c) := W10.cell 20 rfl; have w10_21 : w1.cell? ⟨w.heap.size, 21, none⟩ = some (.int .i64 fm.d) := W10.cell 21 rfl; have w10_22 : w1.cell? ⟨w.heap.size, 22, none⟩ = some (.int .i64 fm.x) := W10.cell 22 rfl; have w10_23 : w1.cell? ⟨w.heap.size, 23, none⟩ = some (.int .i64 fm.y) := W10.cell 23 rfl; have w10_24 : w1.cell? ⟨w.heap.size, 24, none⟩ = some (.slice ca cl cc) := W10.cell 24 rfl; have w10_25 : w1.cell? ⟨w.heap.size, 25, none⟩ = some (.bool dk) := W10.cell 25 rfl; have W11 : Row w1 (w.heap.size + 1) #[.int .i64 cm.a, .int .i64 cm.b, .int .i64 cm.c, .int .i64 cm.d, .int .i64 cm.x, .int .i64 cm.y, .int .i64 sp, .int .i64 p0, .int .i64 p1, .int .i64 p2, .int .i64 p3, .int .i64 wd, .int .i64 cp, .int .i64 jn, .int .i64 mt, .slice ea dl ec, .int .i64 ph, .int .i64 fn, .int .i64 fm.a, .int .i64 fm.b, .int .i64 fm.c, .int .i64 fm.d, .int .i64 fm.x, .int .i64 fm.y, .slice fa cl fc, .bool dk] := Row.up (show Row _ (w.heap.size + 1) #[.int .i64 cm.a, .int .i64 cm.b, .int .i64 cm.c, .int .i64 cm.d, .int .i64 cm.x, .int .i64 cm.y, .int .i64 sp, .int .i64 p0, .int .i64 p1, .int .i64 p2, .int .i64 p3, .int .i64 wd, .int .i64 cp, .int .i64 jn, .int .i64 mt, .slice ea dl ec, .int .i64 ph, .int .i64 fn, .int .i64 fm.a, .int .i64 fm.b, .int .i64 fm.c, .int .i64 fm.d, .int .i64 fm.x, .int .i64 fm.y, .slice fa cl fc, .bool dk] by (repeat' (with_reducible first | assumption | (refine Row.at _ _ ?_; (simp; done)) | refine Row.alloc ?_ _ | refine Row.drew ?_ | refine Row.drewN ?_ _ | refine Row.other ?_ (by first | (simp; done) | (simp; omega) | omega) _ | refine Row.up ?_ (by assumption) | refine Row.chg ?_ (by assumption) (by first | (simp; done) | (simp; omega))))) hu1; have w11_17 : w1.cell? ⟨w.heap.size + 1, 17, none⟩ = some (.int .i64 fn) := W11.cell 17 rfl; have w11_18 : w1.cell? ⟨w.heap.size + 1, 18, none⟩ = some (.int .i64 fm.a) := W11.cell 18 rfl; have w11_19 : w1.cell? ⟨w.heap.size + 1, 19, none⟩ = some (.int .i64 fm.b) := W11.cell 19 rfl; have w11_20 : w1.cell? ⟨w.heap.size + 1, 20, none⟩ = some (.int .i64 fm.c) := W11.cell 20 rfl; have w11_21 : w1.cell? ⟨w.heap.size + 1, 21, none⟩ = some (.int .i64 fm.d) := W11.cell 21 rfl; have w11_22 : w1.cell? ⟨w.heap.size + 1, 22, none⟩ = some (.int .i64 fm.x) := W11.cell 22 rfl; have w11_23 : w1.cell? ⟨w.heap.size + 1, 23, none⟩ = some (.int .i64 fm.y) := W11.cell 23 rfl; have w11_24 : w1.cell? ⟨w.heap.size + 1, 24, none⟩ = some (.slice fa cl fc) := W11.cell 24 rfl; have w11_25 : w1.cell? ⟨w.heap.size + 1, 25, none⟩ = some (.bool dk) := W11.cell 25 rfl))
    | (go_at_call 42; ((with_reducible refine (Pt.sameC_calls _ _ cl _ _ l1 l2 _ (Pt.sl_up C1.out (by (repeat' (first | (with_reducible first | exact Up.refl _ | assumption | refine Up.alloc ?_ _ | refine Up.drew ?_ | refine Up.drewN ?_ _ | refine Up.setCell ?_ ?_ _ | refine Up.call ?_ (by assumption)) | go_size)))) (Pt.sl_up C2.out (by (repeat' (first | (with_reducible first | exact Up.refl _ | assumption | refine Up.alloc ?_ _ | refine Up.drew ?_ | refine Up.drewN ?_ _ | refine Up.setCell ?_ ?_ _ | refine Up.call ?_ (by assumption)) | go_size)))) (fun c hc => (S1.out c hc).up (by (repeat' (first | (with_reducible first | exact Up.refl _ | assumption | refine Up.alloc ?_ _ | refine Up.drew ?_ | refine Up.drewN ?_ _ | refine Up.setCell ?_ ?_ _ | refine Up.call ?_ (by assumption)) | go_size)))) (fun c hc => (S2.out c hc).up (by (repeat' (first | (with_reducible first | exact Up.refl _ | assumption | refine Up.alloc ?_ _ | refine Up.drew ?_ | refine Up.drewN ?_ _ | refine Up.setCell ?_ ?_ _ | refine Up.call ?_ (by assumption)) | go_size)))) HE.out).mono ?_); rintro E w2 ⟨rfl, hu2⟩; have z2 := hu2.size; (try simp at z2); have W20 : Row w2 (w.heap.size) #[.int .i64 cm.a, .int .i64 cm.b, .int .i64 cm.c, .int .i64 cm.d, .int .i64 cm.x, .int .i64 cm.y, .int .i64 sp, .int .i64 p0, .int .i64 p1, .int .i64 p2, .int .i64 p3, .int .i64 wd, .int .i64 cp, .int .i64 jn, .int .i64 mt, .slice da dl dc, .int .i64 ph, .int .i64 fn, .int .i64 fm.a, .int .i64 fm.b, .int .i64 fm.c, .int .i64 fm.d, .int .i64 fm.x, .int .i64 fm.y, .slice ca cl cc, .bool dk] := Row.up (show Row _ (w.heap.size) #[.int .i64 cm.a, .int .i64 cm.b, .int .i64 cm.c, .int .i64 cm.d, .int .i64 cm.x, .int .i64 cm.y, .int .i64 sp, .int .i64 p0, .int .i64 p1, .int .i64 p2, .int .i64 p3, .int .i64 wd, .int .i64 cp, .int .i64 jn, .int .i64 mt, .slice da dl dc, .int .i64 ph, .int .i64 fn, .int .i64 fm.a, .int .i64 fm.b, .int .i64 fm.c, .int .i64 fm.d, .int .i64 fm.x, .int .i64 fm.y, .slice ca cl cc, .bool dk] by (repeat' (with_reducible first | assumption | (refine Row.at _ _ ?_; (simp; done)) | refine Row.alloc ?_ _ | refine Row.drew ?_ | refine Row.drewN ?_ _ | refine Row.other ?_ (by first | (simp; done) | (simp; omega) | omega) _ | refine Row.up ?_ (by assumption) | refine Row.chg ?_ (by assumption) (by first | (simp; done) | (simp; omega))))) hu2; have w20_25 : w2.cell? ⟨w.heap.size, 25, none⟩ = some (.bool dk) := W20.cell 25 rfl; have W21 : Row w2 (w.heap.size + 1) #[.int .i64 cm.a, .int .i64 cm.b, .int .i64 cm.c, .int .i64 cm.d, .int .i64 cm.x, .int .i64 cm.y, .int .i64 sp, .int .i64 p0, .int .i64 p1, .int .i64 p2, .int .i64 p3, .int .i64 wd, .int .i64 cp, .int .i64 jn, .int .i64 mt, .slice ea dl ec, .int .i64 ph, .int .i64 fn, .int .i64 fm.a, .int .i64 fm.b, .int .i64 fm.c, .int .i64 fm.d, .int .i64 fm.x, .int .i64 fm.y, .slice fa cl fc, .bool dk] := Row.up (show Row _ (w.heap.size + 1) #[.int .i64 cm.a, .int .i64 cm.b, .int .i64 cm.c, .int .i64 cm.d, .int .i64 cm.x, .int .i64 cm.y, .int .i64 sp, .int .i64 p0, .int .i64 p1, .int .i64 p2, .int .i64 p3, .int .i64 wd, .int .i64 cp, .int .i64 jn, .int .i64 mt, .slice ea dl ec, .int .i64 ph, .int .i64 fn, .int .i64 fm.a, .int .i64 fm.b, .int .i64 fm.c, .int .i64 fm.d, .int .i64 fm.x, .int .i64 fm.y, .slice fa cl fc, .bool dk] by (repeat' (with_reducible first | assumption | (refine Row.at _ _ ?_; (simp; done)) | refine Row.alloc ?_ _ | refine Row.drew ?_ | refine Row.drewN ?_ _ | refine Row.other ?_ (by first | (simp; done) | (simp; omega) | omega) _ | refine Row.up ?_ (by assumption) | refine Row.chg ?_ (by assumption) (by first | (simp; done) | (simp; omega))))) hu2; have w21_25 : w2.cell? ⟨w.heap.size + 1, 25, none⟩ = some (.bool dk) := W21.cell 25 rfl)))
  go_ret
  exact ⟨rfl, by (repeat' (first | (with_reducible first | exact Up.refl _ | assumption | refine Up.alloc ?_ _ | refine Up.drew ?_ | refine Up.drewN ?_ _ | refine Up.setCell ?_ ?_ _ | refine Up.call ?_ (by assumption)) | go_size))⟩
theorem alike_S (x y : S) (w : World) (h1 : SO w x) (h2 : SO w y) (he : x.dat = y.dat) (hl : x.ds.length ≤ 1000000000) : Calls Tryd.prog 15 #[.agg x.cells.toArray, .agg y.cells.toArray] w fun E w' => E = .returned (.bool true) ∧ Up w w' := by
  obtain ⟨ca, cl, cc, ec, hc⟩ := Pt.owns_sl Pt.clip_len h1.cv
  obtain ⟨fa, fl, fc, ef, hf⟩ := Pt.owns_sl Pt.clip_len h2.cv
  obtain ⟨da, dc, ed⟩ := owned_val h1.dv
  obtain ⟨ea, ez, ee⟩ := owned_val h2.dv
  have i1 := owns_ints h1.dv h1.dw
  have i2 := owns_ints h2.dv h2.dw
  have s1 : ∀ c ∈ x.cl, Path.SegV w c.v c.l := fun c hc => (h1.cs c hc).v
  have s2 : ∀ c ∈ y.cl, Path.SegV w c.v c.l := fun c hc => (h2.cs c hc).v
  obtain ⟨cm, sp, p0, p1, p2, p3, wd, cp, jn, mt, dv, ds, ph, fn, fm, cv, cs, dk⟩ := x
  obtain ⟨cm', sp', p0', p1', p2', p3', wd', cp', jn', mt', dv', ds', ph', fn', fm', cv', cs', dk'⟩ := y
  simp only [S.dat, SD.mk.injEq, Prod.mk.injEq] at he
  obtain ⟨rfl, ⟨rfl, rfl, rfl, rfl, rfl⟩, ⟨rfl, rfl, rfl, rfl⟩, rfl, rfl, rfl, rfl, hcl, rfl⟩ := he
  simp only at ec ef ed ee i1 i2 s1 s2 hc hf hl
  subst ec ef ed ee
  have hcn := hc.2.2.1
  have hfn := hf.2.2.1
  have hlen : cs.length = cs'.length := by have := congrArg List.length hcl; simpa using this
  obtain rfl : fl = cl := by omega
  exact alike_cells cm sp p0 p1 p2 p3 wd cp jn mt da ea ds.length dc ez ph fn fm ca fa fl cc fc dk ds cs cs' w rfl hl i1 i2 hc hf s1 s2 hcl

end Go.Proofs.YtoflafbhfoncmaaDoor.Gt
end

section
namespace Go.Proofs.YtoflafbhfoncmaaDoor.Gt
open List renaming getElem_toArray → lga, getElem_cons_zero → lgz, getElem_cons_succ → lgs, setIfInBounds_toArray → lsa, set_cons_zero → lsz, set_cons_succ → lss
open Go.ChangeShapes Go.WideShapes Go.ChangeAt Go.RowKit
open Go.Proofs.YtoflafbhfoncmaaDoor.FixM (fits)
open Go.Proofs.YtoflafbhfoncmaaDoor.MatM (M6)
open Go.Proofs.YtoflafbhfoncmaaDoor.PathM (Seg St Z segCells)
open Go.Proofs.YtoflafbhfoncmaaDoor.Path (own own_mem own_of PathIs Segs)
open Go.Proofs.YtoflafbhfoncmaaDoor.Pt (Clip clipCells Src)
set_option linter.unusedVariables false
set_option linter.unusedSimpArgs false

theorem at_op {P : Program} {ops : Array Oper} {rest : List Oper} {o : Oper} {a : Act} {w : World} {Q : Exit → Act → World → Prop} (op : Op) (ho : o.op = op) (h : wpList P ops Q (o :: rest) a w) : wpList P ops Q (o :: rest) a w := h
set_option maxRecDepth 8000 in
set_option maxHeartbeats 8000000 in
theorem balanced {w : World} (a0 : Option Addr) (n0 c0 : Nat) (l0 : List AV) (a1 : Option Addr) (n1 c1 : Nat) (l1 : List AV) (g0 : Acts w a0 n0 c0 l0) (g1 : Acts w a1 n1 c1 l1) (hT : Font.Tab w) :
    Calls Tryd.prog 3 #[.slice a0 n0 c0, .slice a1 n1 c1] w fun e w' => e = .returned (.bool true) ∧ Up w w' := by
  have HS0 := Lib.hid g0.1
  have HO0 := Lib.hid g0.2
  have HS1 := Lib.hid g1.1
  have HO1 := Lib.hid g1.2
  have HT := Lib.hid hT
  have hcap0 : n0 ≤ c0 := HS0.out.1
  have hcap1 : n1 ≤ c1 := HS1.out.1
  have hbig0 : c0 ≤ 9223372036854775807 := HS0.out.2.1
  have hbig1 : c1 ≤ 9223372036854775807 := HS1.out.2.1
  clear g0 g1 hT
  go_enter Tryd.func3, Tryd.ntmps3
  go_upto_block 0 with (first
    | (go_at_call 6; ((with_reducible refine (gnew_X 100 30 _).mono ?_); rintro E w1 ⟨g, x0, rfl, hg1, hd1, hn1, hu1⟩; have HA1 := Lib.hid (show At w w1 g x0 0 from ⟨hu1, hg1, hn1, by rw [hd1]; exact ⟨start_ok _ _ _, (fun s hs => by cases hs), Nat.le_refl _⟩, by rw [hd1]; rfl⟩); clear hg1 hd1 hn1 hu1))
    | (go_at_call 7; ((with_reducible refine (Gs.answers_calls _).mono ?_); rintro E w2 ⟨rfl, hu2⟩; have HA2 := Lib.hid (show At w w2 g x0 0 from ⟨HA1.out.up.call hu2, HA1.out.gg.up hu2, HA1.out.new, HA1.out.v, HA1.out.most⟩); clear hu2)))
  go_cut [6] from 21 to 51 (fun s6 wx => ∃ (k : Nat) (x : X), k ≤ 40 ∧ Hid (At w wx g x k))
  case first =>
    go_wp2_with fail
    go_loopw [6] (fun i wr => ∃ (k : Nat) (x : X), k ≤ 40 ∧ k ≤ n0 ∧ i = .int .i64 k ∧ Hid (At w wr g x k)) (fun i _ => 40 - (intOf i).toNat)
    case atStart => exact ⟨0, x0, by omega, by omega, rfl, HA2⟩
    case round =>
      obtain ⟨k, x, hk, hkn, rfl, hA⟩ := hrel
      by_cases h1 : k < n0
      rotate_left
      · have t1 : decide (k < n0) = false := decide_eq_false h1
        go_wp2
        go_meet
        case rel => exact ⟨k, x, hk, hA⟩
      by_cases h2 : k < 40
      rotate_left
      · go_wp2
        go_meet
        case rel => exact ⟨k, x, hk, hA⟩
      · skip
        obtain ⟨b0, o0, rfl, hb0, hc0⟩ := HS0.out.2.2.2.2 (by omega)
        obtain ⟨v, hv⟩ : ∃ v, l0[k]? = some v := ⟨_, List.getElem?_eq_getElem (by have := HS0.out.2.2.1; omega)⟩
        have hok := HO0.out v (List.mem_of_getElem? hv)
        have hrg := act_cells hb0 hc0 hA.out.up hv
        obtain ⟨D, N, m, av, lv, cv, zs, px, py⟩ := v
        have HOK := Lib.hid hok
        have q0 : wr.cell? ⟨b0, o0 + k * 11, none⟩ = some (.int .i64 D) := hrg 0 _ rfl
        have q8 : wr.cell? ⟨b0, o0 + k * 11 + 8, none⟩ = some (.slice av lv cv) := hrg 8 _ rfl
        have HRG : Hid (wr.rangeAt b0 (o0 + k * 11) [.int .i64 D, .int .i64 N, .int .i64 m.a, .int .i64 m.b, .int .i64 m.c, .int .i64 m.d, .int .i64 m.x, .int .i64 m.y, .slice av lv cv, .int .i64 px, .int .i64 py]) := Lib.hid hrg
        clear hok hrg hb0 hc0 hv
        by_cases h100 : lv ≤ 100
        rotate_left
        · have t1 : decide ((lv : Int) ≤ 100) = false := decide_eq_false (by omega)
          go_wp2
          go_roundw
          case rel => exact ⟨k + 1, x, by omega, by omega, by go_num, Lib.hid (hA.out.skip (Up.refl _))⟩
          case measure => simp [intOf]; omega
        have t1 : decide ((lv : Int) ≤ 100) = true := decide_eq_true (by omega)
        by_cases h3 : D = 3
        · have t3 : (D != 3) = false := by simp [h3]
          clear h3
          go_wp2
          go_roundw
          case rel => exact ⟨k + 1, x, by omega, by omega, by go_num, Lib.hid (hA.out.skip (Up.refl _))⟩
          case measure => simp [intOf]; omega
        have t3 : (D != 3) = true := by simp [h3]
        go_wp2_with (first
          | ((refine at_op (.load 31 (.tmp 49)) rfl ?_); refine wpList_load_mid rfl 31 (.tmp 49) rfl b0 (o0 + k * 11) (by first | rfl | simp) [.int .i64 D, .int .i64 N, .int .i64 m.a, .int .i64 m.b, .int .i64 m.c, .int .i64 m.d, .int .i64 m.x, .int .i64 m.y, .slice av lv cv, .int .i64 px, .int .i64 py] _ HRG.out Tryd.underlying31 rfl (by exact infoAct) ?_)
          | (go_at_call 8; ((with_reducible refine (call_Xc g x D N m av lv cv zs px py k _ _ hA.out.gg hA.out.v (by omega) (tab_up HT.out hA.out.up) (HOK.out.up hA.out.up) h100 rfl).mono ?_); rintro E w3 ⟨rfl, y, h8, h9⟩; have HA3 := Lib.hid (hA.out.to h8 h9); clear h8 h9)))
        go_roundw
        case rel => exact ⟨k + 1, y, by omega, by omega, by go_num, HA3⟩
        case measure => simp [intOf]; omega
  case rest =>
    obtain ⟨k, x, hk, hA⟩ := hcut
    obtain ⟨wa, hwa⟩ : ∃ w', w' = wc := ⟨wc, rfl⟩
    subst hwa
    obtain ⟨nd, hnd⟩ : ∃ n, x.dat.saved.length = n := ⟨_, rfl⟩
    have HND := Lib.hid hnd
    have HZ := Lib.hid (save_zero hA.out.v (by omega) hA.out.most)
    have HGG := Lib.hid hA.out.gg
    have HLE := Lib.hid (show Le x.l.s.dat from hA.out.v.cur.le)
    clear hnd
    go_upto_block 2 with (first
      | (go_at_call 9; ((with_reducible refine (now_X g x _ HGG.out HLE.out).mono ?_); rintro E w3 ⟨sB, rfl, hsd, hso, hsn, hu3⟩; obtain ⟨C, hC⟩ : ∃ C, sB.cells.toArray = C := ⟨_, rfl⟩; rw [hC]; have HCC := Lib.hid hC; have HCS : C.size = 26 := (by rw [← hC]; rfl); have HCO : C.all (·.oneCell') = true := (by rw [← hC]; exact all_oneCell_toArray (S.one hso)); have HSD := Lib.hid hsd; have HSO := Lib.hid hso; have HSN := Lib.hid hsn; have HU3 := Lib.hid hu3; clear hC hsd hso hsn hu3))
      | ((refine at_op (.store 41 (.tmp 7) _) rfl ?_); (refine wpList_store_Row rfl 41 (.tmp 7) _ rfl w3.heap.size C rfl rfl #[.int .i64 0, .int .i64 0, .int .i64 0, .int .i64 0, .int .i64 0, .int .i64 0, .int .i64 0, .int .i64 0, .int .i64 0, .int .i64 0, .int .i64 0, .int .i64 0, .int .i64 0, .int .i64 0, .int .i64 0, .slice none 0 0, .int .i64 0, .int .i64 0, .int .i64 0, .int .i64 0, .int .i64 0, .int .i64 0, .int .i64 0, .int .i64 0, .slice none 0 0, .bool false] (by (repeat' (with_reducible first | assumption | (refine Row.at _ _ ?_; (simp; done)) | refine Row.alloc ?_ _ | refine Row.drew ?_ | refine Row.drewN ?_ _ | refine Row.other ?_ (by first | (simp; done) | (simp; omega) | omega) _ | refine Row.up ?_ (by assumption) | refine Row.chg ?_ (by assumption) (by first | (simp; done) | (simp; omega))))) Gs.infoSt HCS rfl HCO ?_); intro w4 hr4 hc4; have HR4 := Lib.hid hr4; have HU34 := Lib.hid (show Up w3 w4 from ((Chg.of_up (S := []) (Up.alloc (Up.refl w3) _)).call hc4 (fun b hb => Or.inr (by rw [List.mem_singleton] at hb; subst hb; exact Nat.le_refl _))).up); have HU4 := Lib.hid (HU3.out.call HU34.out); clear hr4 hc4)
      | (go_at_call 10; ((with_reducible refine (path_X g x _ (HGG.out.up HU4.out)).mono ?_); rintro E w90 ⟨rfl, rfl⟩))
      | (go_at_call 11; ((with_reducible refine (Path.segments_calls x.l.p x.l.pv x.l.t _ (HGG.out.cur.p.up HU4.out)).mono ?_); rintro E w5 ⟨v8, rfl, hs8, hu5, ho8⟩; have HS8 := Lib.hid hs8; have HO8 := Lib.hid ho8; have HU45 := Lib.hid hu5; have HU5 := Lib.hid (HU4.out.call hu5); clear hs8 hu5 ho8))
      | (go_at_call 12; ((with_reducible refine (depth_X g x nd HND.out _ (HGG.out.up HU5.out)).mono ?_); rintro E w91 ⟨rfl, rfl⟩))
      | (go_at_call 13; ((with_reducible refine (save_X g x _ (HGG.out.up HU5.out) (hA.out.v.inv (by omega))).mono ?_); rw [HZ.out]; rintro E w6 ⟨y, rfl, h8, h9⟩; have HB6 := Lib.hid (show Bt w5 w6 g x y 1 (41 + 0) from ⟨h8, (by rw [h9]; exact (saveM_V hA.out.v).to (by omega)), (by rw [h9]; exact Down.first HZ.out)⟩); clear h8 h9)))
    have HUW := Lib.hid (hA.out.up.call HU5.out)
    have HNW := Lib.hid hA.out.new
    go_cut [10, 11, 12, 13] from 62 to 110 (fun s10 s11 s12 s13 wx => ∃ (q : Nat) (y : X), s10 = .int .i64 q ∧ q ≤ 41 ∧ Hid (Bt w5 wx g x y q 81))
    case first =>
      go_wp2_with fail
      go_loopw [10, 11] (fun s10 s11 wr => ∃ (j q : Nat) (y : X), j ≤ 40 ∧ j ≤ n1 ∧ s10 = .int .i64 q ∧ s11 = .int .i64 j ∧ 1 ≤ q ∧ q ≤ j + 1 ∧ Hid (Bt w5 wr g x y q (41 + j))) (fun _ s11 _ => 40 - (intOf s11).toNat)
      case atStart => exact ⟨0, 1, y, by omega, by omega, rfl, rfl, by omega, by omega, HB6⟩
      case round =>
        obtain ⟨j, q, z, hj, hjn, rfl, rfl, hq1, hq2, hB⟩ := hrel
        by_cases h1 : j < n1
        rotate_left
        · have t1 : decide (j < n1) = false := decide_eq_false h1
          go_wp2
          go_meet
          case rel => exact ⟨q, z, rfl, by omega, Lib.hid ⟨hB.out.tt, hB.out.v.to (by omega), hB.out.dn⟩⟩
        by_cases h2 : j < 40
        rotate_left
        · go_wp2
          go_meet
          case rel => exact ⟨q, z, rfl, by omega, Lib.hid ⟨hB.out.tt, hB.out.v.to (by omega), hB.out.dn⟩⟩
        have HUR := Lib.hid (To.after HUW.out HNW.out hB.out.tt).1
        obtain ⟨b0, o0, rfl, hb0, hc0⟩ := HS1.out.2.2.2.2 (by omega)
        obtain ⟨v, hv⟩ : ∃ v, l1[j]? = some v := ⟨_, List.getElem?_eq_getElem (by have := HS1.out.2.2.1; omega)⟩
        have hok := HO1.out v (List.mem_of_getElem? hv)
        have hrg := act_cells hb0 hc0 HUR.out hv
        obtain ⟨D, N, m, av, lv, cv, zs, px, py⟩ := v
        have HOK := Lib.hid hok
        have q0 : wr.cell? ⟨b0, o0 + j * 11, none⟩ = some (.int .i64 D) := hrg 0 _ rfl
        have q8 : wr.cell? ⟨b0, o0 + j * 11 + 8, none⟩ = some (.slice av lv cv) := hrg 8 _ rfl
        have HRG : Hid (wr.rangeAt b0 (o0 + j * 11) [.int .i64 D, .int .i64 N, .int .i64 m.a, .int .i64 m.b, .int .i64 m.c, .int .i64 m.d, .int .i64 m.x, .int .i64 m.y, .slice av lv cv, .int .i64 px, .int .i64 py]) := Lib.hid hrg
        clear hok hrg hb0 hc0 hv
        by_cases h100 : lv ≤ 100
        rotate_left
        · have t1 : decide ((100 : Int) < (lv : Int)) = true := decide_eq_true (by omega)
          clear h100
          go_upto_region 19 with (first | ((refine at_op (.load 31 (.tmp 74)) rfl ?_); refine wpList_load_mid rfl 31 (.tmp 74) rfl b0 (o0 + j * 11) (by first | rfl | simp) [.int .i64 D, .int .i64 N, .int .i64 m.a, .int .i64 m.b, .int .i64 m.c, .int .i64 m.d, .int .i64 m.x, .int .i64 m.y, .slice av lv cv, .int .i64 px, .int .i64 py] _ HRG.out Tryd.underlying31 rfl (by exact infoAct) ?_) | ((refine at_op (.store 31 (.tmp 12) _) rfl ?_); (refine wpList_store_Row rfl 31 (.tmp 12) _ rfl wr.heap.size #[.int .i64 D, .int .i64 N, .int .i64 m.a, .int .i64 m.b, .int .i64 m.c, .int .i64 m.d, .int .i64 m.x, .int .i64 m.y, .slice av lv cv, .int .i64 px, .int .i64 py] rfl rfl #[.int .i64 0, .int .i64 0, .int .i64 0, .int .i64 0, .int .i64 0, .int .i64 0, .int .i64 0, .int .i64 0, .slice none 0 0, .int .i64 0, .int .i64 0] (by (repeat' (with_reducible first | assumption | (refine Row.at _ _ ?_; (simp; done)) | refine Row.alloc ?_ _ | refine Row.drew ?_ | refine Row.drewN ?_ _ | refine Row.other ?_ (by first | (simp; done) | (simp; omega) | omega) _ | refine Row.up ?_ (by assumption) | refine Row.chg ?_ (by assumption) (by first | (simp; done) | (simp; omega))))) infoAct rfl rfl (by simp [Value.oneCell']) ?_); intro w7 hr7 hc7; have r0 : w7.cell? ⟨wr.heap.size, 0, none⟩ = some (.int .i64 D) := hr7.cell 0 rfl; have r8 : w7.cell? ⟨wr.heap.size, 8, none⟩ = some (.slice av lv cv) := hr7.cell 8 rfl; have HR7 := Lib.hid hr7; have HU7 := Lib.hid (show Up wr w7 from ((Chg.of_up (S := []) (Up.alloc (Up.refl wr) _)).call hc7 (fun b hb => Or.inr (by rw [List.mem_singleton] at hb; subst hb; exact Nat.le_refl _))).up); clear hr7 hc7))
          go_wp2
          go_roundw
          case rel => exact ⟨j + 1, q, z, by omega, by omega, rfl, by go_num, hq1, by omega, Lib.hid (hB.out.skip HU7.out)⟩
          case measure => simp [intOf]; omega
        have t1 : decide ((100 : Int) < (lv : Int)) = false := decide_eq_false (by omega)
        by_cases h3 : D = 3
        · have t3 : (D == 3) = true := by simp [h3]
          clear h3
          go_upto_region 19 with (first | ((refine at_op (.load 31 (.tmp 74)) rfl ?_); refine wpList_load_mid rfl 31 (.tmp 74) rfl b0 (o0 + j * 11) (by first | rfl | simp) [.int .i64 D, .int .i64 N, .int .i64 m.a, .int .i64 m.b, .int .i64 m.c, .int .i64 m.d, .int .i64 m.x, .int .i64 m.y, .slice av lv cv, .int .i64 px, .int .i64 py] _ HRG.out Tryd.underlying31 rfl (by exact infoAct) ?_) | ((refine at_op (.store 31 (.tmp 12) _) rfl ?_); (refine wpList_store_Row rfl 31 (.tmp 12) _ rfl wr.heap.size #[.int .i64 D, .int .i64 N, .int .i64 m.a, .int .i64 m.b, .int .i64 m.c, .int .i64 m.d, .int .i64 m.x, .int .i64 m.y, .slice av lv cv, .int .i64 px, .int .i64 py] rfl rfl #[.int .i64 0, .int .i64 0, .int .i64 0, .int .i64 0, .int .i64 0, .int .i64 0, .int .i64 0, .int .i64 0, .slice none 0 0, .int .i64 0, .int .i64 0] (by (repeat' (with_reducible first | assumption | (refine Row.at _ _ ?_; (simp; done)) | refine Row.alloc ?_ _ | refine Row.drew ?_ | refine Row.drewN ?_ _ | refine Row.other ?_ (by first | (simp; done) | (simp; omega) | omega) _ | refine Row.up ?_ (by assumption) | refine Row.chg ?_ (by assumption) (by first | (simp; done) | (simp; omega))))) infoAct rfl rfl (by simp [Value.oneCell']) ?_); intro w7 hr7 hc7; have r0 : w7.cell? ⟨wr.heap.size, 0, none⟩ = some (.int .i64 D) := hr7.cell 0 rfl; have r8 : w7.cell? ⟨wr.heap.size, 8, none⟩ = some (.slice av lv cv) := hr7.cell 8 rfl; have HR7 := Lib.hid hr7; have HU7 := Lib.hid (show Up wr w7 from ((Chg.of_up (S := []) (Up.alloc (Up.refl wr) _)).call hc7 (fun b hb => Or.inr (by rw [List.mem_singleton] at hb; subst hb; exact Nat.le_refl _))).up); clear hr7 hc7))
          go_wp2
          go_roundw
          case rel => exact ⟨j + 1, q, z, by omega, by omega, rfl, by go_num, hq1, by omega, Lib.hid (hB.out.skip HU7.out)⟩
          case measure => simp [intOf]; omega
        have t3 : (D == 3) = false := by simp [h3]
        by_cases hd2 : D = 2
        · have t2 : (D == 2) = true := by simp [hd2]
          have t4 : (D == 1) = false := by simp [hd2]
          by_cases hq : q = 1
          · have t5 : ((q : Int) == 1) = true := by simp [hq]
            clear hq hd2 h3
            go_upto_region 19 with (first | ((refine at_op (.load 31 (.tmp 74)) rfl ?_); refine wpList_load_mid rfl 31 (.tmp 74) rfl b0 (o0 + j * 11) (by first | rfl | simp) [.int .i64 D, .int .i64 N, .int .i64 m.a, .int .i64 m.b, .int .i64 m.c, .int .i64 m.d, .int .i64 m.x, .int .i64 m.y, .slice av lv cv, .int .i64 px, .int .i64 py] _ HRG.out Tryd.underlying31 rfl (by exact infoAct) ?_) | ((refine at_op (.store 31 (.tmp 12) _) rfl ?_); (refine wpList_store_Row rfl 31 (.tmp 12) _ rfl wr.heap.size #[.int .i64 D, .int .i64 N, .int .i64 m.a, .int .i64 m.b, .int .i64 m.c, .int .i64 m.d, .int .i64 m.x, .int .i64 m.y, .slice av lv cv, .int .i64 px, .int .i64 py] rfl rfl #[.int .i64 0, .int .i64 0, .int .i64 0, .int .i64 0, .int .i64 0, .int .i64 0, .int .i64 0, .int .i64 0, .slice none 0 0, .int .i64 0, .int .i64 0] (by (repeat' (with_reducible first | assumption | (refine Row.at _ _ ?_; (simp; done)) | refine Row.alloc ?_ _ | refine Row.drew ?_ | refine Row.drewN ?_ _ | refine Row.other ?_ (by first | (simp; done) | (simp; omega) | omega) _ | refine Row.up ?_ (by assumption) | refine Row.chg ?_ (by assumption) (by first | (simp; done) | (simp; omega))))) infoAct rfl rfl (by simp [Value.oneCell']) ?_); intro w7 hr7 hc7; have r0 : w7.cell? ⟨wr.heap.size, 0, none⟩ = some (.int .i64 D) := hr7.cell 0 rfl; have r8 : w7.cell? ⟨wr.heap.size, 8, none⟩ = some (.slice av lv cv) := hr7.cell 8 rfl; have HR7 := Lib.hid hr7; have HU7 := Lib.hid (show Up wr w7 from ((Chg.of_up (S := []) (Up.alloc (Up.refl wr) _)).call hc7 (fun b hb => Or.inr (by rw [List.mem_singleton] at hb; subst hb; exact Nat.le_refl _))).up); clear hr7 hc7))
            go_wp2
            go_roundw
            case rel => exact ⟨j + 1, q, z, by omega, by omega, rfl, by go_num, hq1, by omega, Lib.hid (hB.out.skip HU7.out)⟩
            case measure => simp [intOf]; omega
          have t5 : ((q : Int) == 1) = false := by simp; omega
          have HQ1 := Lib.hid hq
          clear hq
          obtain ⟨p, hp⟩ : ∃ p, q = p + 1 := ⟨q - 1, by omega⟩
          have HP := Lib.hid hp
          have HD := Lib.hid hd2
          clear hp hd2 h3
          go_wp2_with (first
            | ((refine at_op (.load 31 (.tmp 74)) rfl ?_); refine wpList_load_mid rfl 31 (.tmp 74) rfl b0 (o0 + j * 11) (by first | rfl | simp) [.int .i64 D, .int .i64 N, .int .i64 m.a, .int .i64 m.b, .int .i64 m.c, .int .i64 m.d, .int .i64 m.x, .int .i64 m.y, .slice av lv cv, .int .i64 px, .int .i64 py] _ HRG.out Tryd.underlying31 rfl (by exact infoAct) ?_) | ((refine at_op (.store 31 (.tmp 12) _) rfl ?_); (refine wpList_store_Row rfl 31 (.tmp 12) _ rfl wr.heap.size #[.int .i64 D, .int .i64 N, .int .i64 m.a, .int .i64 m.b, .int .i64 m.c, .int .i64 m.d, .int .i64 m.x, .int .i64 m.y, .slice av lv cv, .int .i64 px, .int .i64 py] rfl rfl #[.int .i64 0, .int .i64 0, .int .i64 0, .int .i64 0, .int .i64 0, .int .i64 0, .int .i64 0, .int .i64 0, .slice none 0 0, .int .i64 0, .int .i64 0] (by (repeat' (with_reducible first | assumption | (refine Row.at _ _ ?_; (simp; done)) | refine Row.alloc ?_ _ | refine Row.drew ?_ | refine Row.drewN ?_ _ | refine Row.other ?_ (by first | (simp; done) | (simp; omega) | omega) _ | refine Row.up ?_ (by assumption) | refine Row.chg ?_ (by assumption) (by first | (simp; done) | (simp; omega))))) infoAct rfl rfl (by simp [Value.oneCell']) ?_); intro w7 hr7 hc7; have r0 : w7.cell? ⟨wr.heap.size, 0, none⟩ = some (.int .i64 D) := hr7.cell 0 rfl; have r8 : w7.cell? ⟨wr.heap.size, 8, none⟩ = some (.slice av lv cv) := hr7.cell 8 rfl; have HR7 := Lib.hid hr7; have HU7 := Lib.hid (show Up wr w7 from ((Chg.of_up (S := []) (Up.alloc (Up.refl wr) _)).call hc7 (fun b hb => Or.inr (by rw [List.mem_singleton] at hb; subst hb; exact Nat.le_refl _))).up); clear hr7 hc7)
            | ((refine at_op (.load 31 (.tmp 12)) rfl ?_); refine wpList_load_Row rfl 31 (.tmp 12) rfl wr.heap.size rfl #[.int .i64 D, .int .i64 N, .int .i64 m.a, .int .i64 m.b, .int .i64 m.c, .int .i64 m.d, .int .i64 m.x, .int .i64 m.y, .slice av lv cv, .int .i64 px, .int .i64 py] _ HR7.out Tryd.underlying31 rfl infoAct rfl ?_)
            | (go_at_call 8; ((with_reducible refine (call_Xc g z D N m av lv cv zs px py (41 + j) _ _ (hB.out.tt.g.up HU7.out) hB.out.v (by omega) (tab_up HT.out (HUR.out.call HU7.out)) (HOK.out.up (HUR.out.call HU7.out)) h100 rfl).mono ?_); rintro E w8 ⟨rfl, y8, h8, h9⟩; have HB8 := Lib.hid ((hB.out.up HU7.out).call (j := p) h8 h9 (by rw [callM_two HD.out]; have h := hB.out.dn; rw [HP.out] at h; exact h.rest)); have c0 : w8.cell? ⟨wr.heap.size, 0, none⟩ = some (.int .i64 D) := (HR7.out.chg h8.2.1 (fun hb => absurd (hB.out.tt.g.lt _ hb) (Nat.lt_irrefl _))).cell 0 rfl; clear h8 h9)))
          go_roundw
          case rel => exact ⟨j + 1, p, y8, by omega, by omega, by have := HP.out; go_num, by go_num, by have := HP.out; have := HQ1.out; omega, by have := HP.out; have := HQ1.out; omega, HB8⟩
          case measure => simp [intOf]; omega
        have t2 : (D == 2) = false := by simp [hd2]
        obtain ⟨e, he⟩ : ∃ e, (callM ⟨D, N, m, av, lv, cv, zs, px, py⟩ z.dat).2 = e := ⟨_, rfl⟩
        have HE := Lib.hid he
        clear he
        by_cases hd1 : D = 1
        · have t4 : (D == 1) = true := by simp [hd1]
          have HD := Lib.hid hd1
          clear hd1 h3 hd2
          by_cases h0 : e = 0
          · have t5 : (e == 0) = true := by simp [h0]
            have HE0 := Lib.hid h0
            clear h0
            go_wp2_with (first
              | ((refine at_op (.load 31 (.tmp 74)) rfl ?_); refine wpList_load_mid rfl 31 (.tmp 74) rfl b0 (o0 + j * 11) (by first | rfl | simp) [.int .i64 D, .int .i64 N, .int .i64 m.a, .int .i64 m.b, .int .i64 m.c, .int .i64 m.d, .int .i64 m.x, .int .i64 m.y, .slice av lv cv, .int .i64 px, .int .i64 py] _ HRG.out Tryd.underlying31 rfl (by exact infoAct) ?_) | ((refine at_op (.store 31 (.tmp 12) _) rfl ?_); (refine wpList_store_Row rfl 31 (.tmp 12) _ rfl wr.heap.size #[.int .i64 D, .int .i64 N, .int .i64 m.a, .int .i64 m.b, .int .i64 m.c, .int .i64 m.d, .int .i64 m.x, .int .i64 m.y, .slice av lv cv, .int .i64 px, .int .i64 py] rfl rfl #[.int .i64 0, .int .i64 0, .int .i64 0, .int .i64 0, .int .i64 0, .int .i64 0, .int .i64 0, .int .i64 0, .slice none 0 0, .int .i64 0, .int .i64 0] (by (repeat' (with_reducible first | assumption | (refine Row.at _ _ ?_; (simp; done)) | refine Row.alloc ?_ _ | refine Row.drew ?_ | refine Row.drewN ?_ _ | refine Row.other ?_ (by first | (simp; done) | (simp; omega) | omega) _ | refine Row.up ?_ (by assumption) | refine Row.chg ?_ (by assumption) (by first | (simp; done) | (simp; omega))))) infoAct rfl rfl (by simp [Value.oneCell']) ?_); intro w7 hr7 hc7; have r0 : w7.cell? ⟨wr.heap.size, 0, none⟩ = some (.int .i64 D) := hr7.cell 0 rfl; have r8 : w7.cell? ⟨wr.heap.size, 8, none⟩ = some (.slice av lv cv) := hr7.cell 8 rfl; have HR7 := Lib.hid hr7; have HU7 := Lib.hid (show Up wr w7 from ((Chg.of_up (S := []) (Up.alloc (Up.refl wr) _)).call hc7 (fun b hb => Or.inr (by rw [List.mem_singleton] at hb; subst hb; exact Nat.le_refl _))).up); clear hr7 hc7)
              | ((refine at_op (.load 31 (.tmp 12)) rfl ?_); refine wpList_load_Row rfl 31 (.tmp 12) rfl wr.heap.size rfl #[.int .i64 D, .int .i64 N, .int .i64 m.a, .int .i64 m.b, .int .i64 m.c, .int .i64 m.d, .int .i64 m.x, .int .i64 m.y, .slice av lv cv, .int .i64 px, .int .i64 py] _ HR7.out Tryd.underlying31 rfl infoAct rfl ?_)
              | (go_at_call 8; ((with_reducible refine (call_Xc g z D N m av lv cv zs px py (41 + j) _ _ (hB.out.tt.g.up HU7.out) hB.out.v (by omega) (tab_up HT.out (HUR.out.call HU7.out)) (HOK.out.up (HUR.out.call HU7.out)) h100 HE.out).mono ?_); rintro E w8 ⟨rfl, y8, h8, h9⟩; have HB8 := Lib.hid ((hB.out.up HU7.out).call (j := (q + 1)) h8 h9 (by have h := HE.out; rw [callM_one HD.out] at h ⊢; exact hB.out.dn.save hq1 (h.trans HE0.out))); have c0 : w8.cell? ⟨wr.heap.size, 0, none⟩ = some (.int .i64 D) := (HR7.out.chg h8.2.1 (fun hb => absurd (hB.out.tt.g.lt _ hb) (Nat.lt_irrefl _))).cell 0 rfl; clear h8 h9)))
            go_roundw
            case rel => exact ⟨j + 1, (q + 1), y8, by omega, by omega, by go_num, by go_num, by omega, by omega, HB8⟩
            case measure => simp [intOf]; omega
          have t5 : (e == 0) = false := by simp [h0]
          have HE0 := Lib.hid h0
          clear h0
          go_wp2_with (first
            | ((refine at_op (.load 31 (.tmp 74)) rfl ?_); refine wpList_load_mid rfl 31 (.tmp 74) rfl b0 (o0 + j * 11) (by first | rfl | simp) [.int .i64 D, .int .i64 N, .int .i64 m.a, .int .i64 m.b, .int .i64 m.c, .int .i64 m.d, .int .i64 m.x, .int .i64 m.y, .slice av lv cv, .int .i64 px, .int .i64 py] _ HRG.out Tryd.underlying31 rfl (by exact infoAct) ?_) | ((refine at_op (.store 31 (.tmp 12) _) rfl ?_); (refine wpList_store_Row rfl 31 (.tmp 12) _ rfl wr.heap.size #[.int .i64 D, .int .i64 N, .int .i64 m.a, .int .i64 m.b, .int .i64 m.c, .int .i64 m.d, .int .i64 m.x, .int .i64 m.y, .slice av lv cv, .int .i64 px, .int .i64 py] rfl rfl #[.int .i64 0, .int .i64 0, .int .i64 0, .int .i64 0, .int .i64 0, .int .i64 0, .int .i64 0, .int .i64 0, .slice none 0 0, .int .i64 0, .int .i64 0] (by (repeat' (with_reducible first | assumption | (refine Row.at _ _ ?_; (simp; done)) | refine Row.alloc ?_ _ | refine Row.drew ?_ | refine Row.drewN ?_ _ | refine Row.other ?_ (by first | (simp; done) | (simp; omega) | omega) _ | refine Row.up ?_ (by assumption) | refine Row.chg ?_ (by assumption) (by first | (simp; done) | (simp; omega))))) infoAct rfl rfl (by simp [Value.oneCell']) ?_); intro w7 hr7 hc7; have r0 : w7.cell? ⟨wr.heap.size, 0, none⟩ = some (.int .i64 D) := hr7.cell 0 rfl; have r8 : w7.cell? ⟨wr.heap.size, 8, none⟩ = some (.slice av lv cv) := hr7.cell 8 rfl; have HR7 := Lib.hid hr7; have HU7 := Lib.hid (show Up wr w7 from ((Chg.of_up (S := []) (Up.alloc (Up.refl wr) _)).call hc7 (fun b hb => Or.inr (by rw [List.mem_singleton] at hb; subst hb; exact Nat.le_refl _))).up); clear hr7 hc7)
            | ((refine at_op (.load 31 (.tmp 12)) rfl ?_); refine wpList_load_Row rfl 31 (.tmp 12) rfl wr.heap.size rfl #[.int .i64 D, .int .i64 N, .int .i64 m.a, .int .i64 m.b, .int .i64 m.c, .int .i64 m.d, .int .i64 m.x, .int .i64 m.y, .slice av lv cv, .int .i64 px, .int .i64 py] _ HR7.out Tryd.underlying31 rfl infoAct rfl ?_)
            | (go_at_call 8; ((with_reducible refine (call_Xc g z D N m av lv cv zs px py (41 + j) _ _ (hB.out.tt.g.up HU7.out) hB.out.v (by omega) (tab_up HT.out (HUR.out.call HU7.out)) (HOK.out.up (HUR.out.call HU7.out)) h100 HE.out).mono ?_); rintro E w8 ⟨rfl, y8, h8, h9⟩; have HB8 := Lib.hid ((hB.out.up HU7.out).call (j := q) h8 h9 (by have h := HE.out; rw [callM_one HD.out] at h ⊢; exact hB.out.dn.stay (fun h9 => HE0.out (h.symm.trans h9)))); have c0 : w8.cell? ⟨wr.heap.size, 0, none⟩ = some (.int .i64 D) := (HR7.out.chg h8.2.1 (fun hb => absurd (hB.out.tt.g.lt _ hb) (Nat.lt_irrefl _))).cell 0 rfl; clear h8 h9)))
          go_roundw
          case rel => exact ⟨j + 1, q, y8, by omega, by omega, rfl, by go_num, by omega, by omega, HB8⟩
          case measure => simp [intOf]; omega
        have t4 : (D == 1) = false := by simp [hd1]
        have HD1 := Lib.hid hd1
        have HD2 := Lib.hid hd2
        have HD3 := Lib.hid h3
        clear hd1 hd2 h3
        go_wp2_with (first
          | ((refine at_op (.load 31 (.tmp 74)) rfl ?_); refine wpList_load_mid rfl 31 (.tmp 74) rfl b0 (o0 + j * 11) (by first | rfl | simp) [.int .i64 D, .int .i64 N, .int .i64 m.a, .int .i64 m.b, .int .i64 m.c, .int .i64 m.d, .int .i64 m.x, .int .i64 m.y, .slice av lv cv, .int .i64 px, .int .i64 py] _ HRG.out Tryd.underlying31 rfl (by exact infoAct) ?_) | ((refine at_op (.store 31 (.tmp 12) _) rfl ?_); (refine wpList_store_Row rfl 31 (.tmp 12) _ rfl wr.heap.size #[.int .i64 D, .int .i64 N, .int .i64 m.a, .int .i64 m.b, .int .i64 m.c, .int .i64 m.d, .int .i64 m.x, .int .i64 m.y, .slice av lv cv, .int .i64 px, .int .i64 py] rfl rfl #[.int .i64 0, .int .i64 0, .int .i64 0, .int .i64 0, .int .i64 0, .int .i64 0, .int .i64 0, .int .i64 0, .slice none 0 0, .int .i64 0, .int .i64 0] (by (repeat' (with_reducible first | assumption | (refine Row.at _ _ ?_; (simp; done)) | refine Row.alloc ?_ _ | refine Row.drew ?_ | refine Row.drewN ?_ _ | refine Row.other ?_ (by first | (simp; done) | (simp; omega) | omega) _ | refine Row.up ?_ (by assumption) | refine Row.chg ?_ (by assumption) (by first | (simp; done) | (simp; omega))))) infoAct rfl rfl (by simp [Value.oneCell']) ?_); intro w7 hr7 hc7; have r0 : w7.cell? ⟨wr.heap.size, 0, none⟩ = some (.int .i64 D) := hr7.cell 0 rfl; have r8 : w7.cell? ⟨wr.heap.size, 8, none⟩ = some (.slice av lv cv) := hr7.cell 8 rfl; have HR7 := Lib.hid hr7; have HU7 := Lib.hid (show Up wr w7 from ((Chg.of_up (S := []) (Up.alloc (Up.refl wr) _)).call hc7 (fun b hb => Or.inr (by rw [List.mem_singleton] at hb; subst hb; exact Nat.le_refl _))).up); clear hr7 hc7)
          | ((refine at_op (.load 31 (.tmp 12)) rfl ?_); refine wpList_load_Row rfl 31 (.tmp 12) rfl wr.heap.size rfl #[.int .i64 D, .int .i64 N, .int .i64 m.a, .int .i64 m.b, .int .i64 m.c, .int .i64 m.d, .int .i64 m.x, .int .i64 m.y, .slice av lv cv, .int .i64 px, .int .i64 py] _ HR7.out Tryd.underlying31 rfl infoAct rfl ?_)
          | (go_at_call 8; ((with_reducible refine (call_Xc g z D N m av lv cv zs px py (41 + j) _ _ (hB.out.tt.g.up HU7.out) hB.out.v (by omega) (tab_up HT.out (HUR.out.call HU7.out)) (HOK.out.up (HUR.out.call HU7.out)) h100 HE.out).mono ?_); rintro E w8 ⟨rfl, y8, h8, h9⟩; have HB8 := Lib.hid ((hB.out.up HU7.out).call (j := q) h8 h9 (by exact hB.out.dn.other hq1 _ HD1.out HD2.out HD3.out)); have c0 : w8.cell? ⟨wr.heap.size, 0, none⟩ = some (.int .i64 D) := (HR7.out.chg h8.2.1 (fun hb => absurd (hB.out.tt.g.lt _ hb) (Nat.lt_irrefl _))).cell 0 rfl; clear h8 h9)))
        go_roundw
        case rel => exact ⟨j + 1, q, y8, by omega, by omega, rfl, by go_num, by omega, by omega, HB8⟩
        case measure => simp [intOf]; omega
    case rest =>
      obtain ⟨q0, y0, rfl, hq0, hB0⟩ := hcut
      go_wp2_with fail
      go_loopw [10] (fun s10 wr => ∃ (q : Nat) (z : X), s10 = .int .i64 q ∧ q ≤ 41 ∧ Hid (Bt w5 wr g x z q 81)) (fun s10 _ => (intOf s10).toNat)
      case atStart => exact ⟨q0, y0, rfl, hq0, hB0⟩
      case round =>
        obtain ⟨q, z, rfl, hq, hB⟩ := hrel
        by_cases h0 : 0 < q
        · obtain ⟨p, hp⟩ : ∃ p, q = p + 1 := ⟨q - 1, by omega⟩
          have HP := Lib.hid hp
          clear hp
          go_wp2_with (go_at_call 14; ((with_reducible refine (restore_X g z _ hB.out.tt.g (hB.out.v.inv (by omega))).mono ?_); rintro E w8 ⟨y8, rfl, h8, h9⟩; have HB8 := Lib.hid (Bt.rest (q := p) (by rw [← HP.out]; exact hB.out) h8 h9); clear h8 h9))
          go_roundw
          case rel => exact ⟨p, y8, by have := HP.out; go_num, by have := HP.out; omega, HB8⟩
          case measure => have := HP.out; simp [intOf]; omega
        · obtain rfl : q = 0 := by omega
          have HDS := Lib.hid (show z.l.s.dat = x.l.s.dat from hB.out.dn.1)
          have HDT := Lib.hid (show z.l.t = x.l.t from hB.out.dn.2.1)
          have HDN := Lib.hid (show z.dat.saved.length = nd from by rw [hB.out.dn.2.2]; exact HND.out)
          have HLT := Lib.hid HGG.out.lt
          have HR9 := Lib.hid (show Row wr w3.heap.size C from (HR4.out.up HU45.out).chg hB.out.tt.2.1 (fun hb => absurd (HLT.out _ hb) (by have := HU3.out.size; omega)))
          have HSO9 := Lib.hid (show SO wr sB from ((HSO.out.up HU34.out).up HU45.out).chg hB.out.tt.2.1 (fun b hb h1 => absurd (HLT.out _ h1) (by have := (HSN.out b hb).1; omega)))
          have HS9 := Lib.hid (show Segs wr v8 x.l.t.l from HS8.out.chg hB.out.tt.2.1 (fun b hb h1 => absurd (HLT.out _ h1) (by have := HO8.out b hb; have := HU4.out.size; omega)))
          have HGZ := Lib.hid hB.out.tt.g
          have HUZ := Lib.hid (To.after HUW.out HNW.out hB.out.tt).1
          have HLZ := Lib.hid (show Le z.l.s.dat from hB.out.v.cur.le)
          clear hB h0
          go_wp2
          have HUD : Hid (Up wr wr.drew) := Lib.hid (Up.drew (Up.refl wr))
          refine wp_region_held_drew (S := fun w' => Row w' w3.heap.size C) (by kernel_rfl) ?_ (fun hHeld => ?_)
          · exact (by first | exact HR9.out | exact Row.drew HR9.out)
          refine wpAnyH_take (i := 0) (v := ?_) rfl (by decide +kernel) (by decide +kernel) (by decide +kernel) (fun _ _ _ h => h) (Or.inl ⟨by rfl, ?_⟩) (by assumption) ?_
          rotate_left
          · intro w2 hSw
            (try dsimp only at hSw)
            (try (obtain ⟨hs1, hs2⟩ := hSw))
            go_simp
            (try (with_reducible rfl))
          (try simp only [Act.put, lga, lgz, lgs, lsa, lsz, lss])
          refine wpAnyH_take (i := 2) (v := ?_) rfl (by decide +kernel) (by decide +kernel) (by decide +kernel) (fun _ _ _ h => h) (Or.inl ⟨by rfl, ?_⟩) (by assumption) ?_
          rotate_left
          · intro w2 hSw
            (try dsimp only at hSw)
            (try (obtain ⟨hs1, hs2⟩ := hSw))
            go_simp
            (try (with_reducible rfl))
          (try simp only [Act.put, lga, lgz, lgs, lsa, lsz, lss])
          refine wpAnyH_ready (rs := [1]) (by decide +kernel) (by simp) ?_
          refine AllReadyH.cons rfl (fun K hK => ?_) (AllReadyH.nil)
          (try simp only [lga, lgz, lgs])
          (go_simp; go_at_call 12; ((with_reducible refine (depth_X g z nd HDN.out _ (HGZ.out.up HUD.out)).mono ?_); rintro E w91 ⟨rfl, rfl⟩); (try dsimp only))
          refine hK.out _ _ ?_ (fun hHeld => ?_)
          · exact hHeld
          clear hK K
          (try simp only [Act.put, lga, lgz, lgs, lsa, lsz, lss])
          refine wpAnyH_take (i := 3) (v := ?_) rfl (by decide +kernel) (by decide +kernel) (by decide +kernel) (fun _ _ _ h => h) (Or.inl ⟨by rfl, ?_⟩) (by assumption) ?_
          rotate_left
          · intro w2 hSw
            (try dsimp only at hSw)
            (try (obtain ⟨hs1, hs2⟩ := hSw))
            go_simp
            (try (with_reducible rfl))
          (try simp only [Act.put, lga, lgz, lgs, lsa, lsz, lss])
          refine wpAnyH_take (i := 4) (v := ?_) rfl (by decide +kernel) (by decide +kernel) (by decide +kernel) (fun _ _ _ h => h) (Or.inl ⟨by rfl, ?_⟩) (by assumption) ?_
          rotate_left
          · intro w2 hSw
            (try dsimp only at hSw)
            (try (obtain ⟨hs1, hs2⟩ := hSw))
            go_simp
            (try (with_reducible rfl))
          (try simp only [Act.put, lga, lgz, lgs, lsa, lsz, lss])
          refine wpAnyH_take (i := 5) (v := ?_) rfl (by decide +kernel) (by decide +kernel) (by decide +kernel) (fun _ _ _ h => h) (Or.inl ⟨by rfl, ?_⟩) (by assumption) ?_
          rotate_left
          · intro w2 hSw
            (try dsimp only at hSw)
            (try (obtain ⟨hs1, hs2⟩ := hSw))
            go_simp
            (try (with_reducible rfl))
          (try simp only [Act.put, lga, lgz, lgs, lsa, lsz, lss])
          refine wpAnyH_take (i := 7) rfl (by decide +kernel) (by decide +kernel) (by decide +kernel) (fun _ _ _ h => h) (yieldsIf_load_mid (by rfl) 41 (.tmp 7) rfl w3.heap.size 0 rfl C.toList _ (fun _ h => Pt.rng0 h) Tryd.underlying41 rfl (by rw [Array.length_toList, HCS]; exact Gs.infoSt)) (by assumption) ?_
          (try simp only [Act.put, lga, lgz, lgs, lsa, lsz, lss])
          (try simp only [Array.toArray_toList])
          refine wpAnyH_ready (rs := [6]) (by decide +kernel) (by simp) ?_
          refine AllReadyH.cons rfl (fun K hK => ?_) (AllReadyH.nil)
          (try simp only [lga, lgz, lgs])
          (go_simp; go_at_call 9; ((with_reducible refine (now_X g z _ (HGZ.out.up HUD.out) HLZ.out).mono ?_); rintro E w10 ⟨sE, rfl, hsd, hso, hsn, hu10⟩; obtain ⟨KE, hKE⟩ : ∃ C, sE.cells.toArray = C := ⟨_, rfl⟩; rw [hKE]; have HKK := Lib.hid hKE; have HSE := Lib.hid hsd; have HOE := Lib.hid hso; have HU10d := Lib.hid hu10; have HU10 := Lib.hid (HUD.out.call hu10); clear hKE hsd hso hsn hu10); (try dsimp only))
          refine hK.out _ _ ?_ (fun hHeld => ?_)
          · exact Row.up hHeld HU10d.out
          clear hK K
          (try simp only [Act.put, lga, lgz, lgs, lsa, lsz, lss])
          refine wpAnyH_ready (rs := [8]) (by decide +kernel) (by simp) ?_
          refine AllReadyH.cons rfl (fun K hK => ?_) (AllReadyH.nil)
          (try simp only [lga, lgz, lgs])
          (go_simp; go_at_call 15; ((with_reducible rw [← HKK.out, ← HCC.out]); (with_reducible refine (alike_S sE sB _ HOE.out (HSO9.out.up HU10.out) (HSE.out.trans (HDS.out.trans HSD.out.symm)) (by have h2 := HLZ.out.d; rw [← HSE.out] at h2; exact Nat.le_trans h2 (by decide))).mono ?_); rintro E w11 ⟨rfl, hu11⟩; have HU11d := Lib.hid hu11; have HU11 := Lib.hid (HU10.out.call hu11); clear hu11); (try dsimp only))
          refine hK.out _ _ ?_ (fun hHeld => ?_)
          · exact Row.up hHeld HU11d.out
          clear hK K
          (try simp only [Act.put, lga, lgz, lgs, lsa, lsz, lss])
          refine wpAnyH_take (i := 9) (v := ?_) rfl (by decide +kernel) (by decide +kernel) (by decide +kernel) (fun _ _ _ h => h) (Or.inl ⟨by rfl, ?_⟩) (by assumption) ?_
          rotate_left
          · intro w2 hSw
            (try dsimp only at hSw)
            (try (obtain ⟨hs1, hs2⟩ := hSw))
            go_simp
            (try (with_reducible rfl))
          (try simp only [Act.put, lga, lgz, lgs, lsa, lsz, lss])
          refine wpAnyH_take (i := 10) (v := ?_) rfl (by decide +kernel) (by decide +kernel) (by decide +kernel) (fun _ _ _ h => h) (Or.inl ⟨by rfl, ?_⟩) (by assumption) ?_
          rotate_left
          · intro w2 hSw
            (try dsimp only at hSw)
            (try (obtain ⟨hs1, hs2⟩ := hSw))
            go_simp
            (try (with_reducible rfl))
          (try simp only [Act.put, lga, lgz, lgs, lsa, lsz, lss])
          refine wpAnyH_take (i := 11) (v := ?_) rfl (by decide +kernel) (by decide +kernel) (by decide +kernel) (fun _ _ _ h => h) (Or.inl ⟨by rfl, ?_⟩) (by assumption) ?_
          rotate_left
          · intro w2 hSw
            (try dsimp only at hSw)
            (try (obtain ⟨hs1, hs2⟩ := hSw))
            go_simp
            (try (with_reducible rfl))
          (try simp only [Act.put, lga, lgz, lgs, lsa, lsz, lss])
          refine wpAnyH_take (i := 14) (v := ?_) rfl (by decide +kernel) (by decide +kernel) (by decide +kernel) (fun _ _ _ h => h) (Or.inl ⟨by rfl, ?_⟩) (by assumption) ?_
          rotate_left
          · intro w2 hSw
            (try dsimp only at hSw)
            (try (obtain ⟨hs1, hs2⟩ := hSw))
            go_simp
            (try (with_reducible rfl))
          (try simp only [Act.put, lga, lgz, lgs, lsa, lsz, lss])
          refine wpAnyH_ready (rs := [12]) (by decide +kernel) (by simp) ?_
          refine AllReadyH.cons rfl (fun K hK => ?_) (AllReadyH.nil)
          (try simp only [lga, lgz, lgs])
          (go_simp; go_at_call 10; ((with_reducible refine (path_X g z _ (HGZ.out.up HU11.out)).mono ?_); rintro E w90 ⟨rfl, rfl⟩); (try dsimp only))
          refine hK.out _ _ ?_ (fun hHeld => ?_)
          · exact hHeld
          clear hK K
          (try simp only [Act.put, lga, lgz, lgs, lsa, lsz, lss])
          refine wpAnyH_ready (rs := [13]) (by decide +kernel) (by simp) ?_
          refine AllReadyH.cons rfl (fun K hK => ?_) (AllReadyH.nil)
          (try simp only [lga, lgz, lgs])
          (go_simp; go_at_call 11; ((with_reducible refine (Path.segments_calls z.l.p z.l.pv z.l.t _ (HGZ.out.cur.p.up HU11.out)).mono ?_); rintro E w12 ⟨v9, rfl, hs9, hu12, ho9⟩; have HSS := Lib.hid hs9; have HU12d := Lib.hid hu12; have HU12 := Lib.hid (HU11.out.call hu12); clear hs9 hu12 ho9); (try dsimp only))
          refine hK.out _ _ ?_ (fun hHeld => ?_)
          · exact Row.up hHeld HU12d.out
          clear hK K
          (try simp only [Act.put, lga, lgz, lgs, lsa, lsz, lss])
          refine wpAnyH_ready (rs := [15]) (by decide +kernel) (by simp) ?_
          refine AllReadyH.cons rfl (fun K hK => ?_) (AllReadyH.nil)
          (try simp only [lga, lgz, lgs])
          (go_simp; go_at_call 16; ((with_reducible refine (Path.same_calls v9 v8 z.l.t.l x.l.t.l _ HSS.out.v ((HS9.out.chg (S := []) (Chg.of_up HU12.out) (by simp)).v)).mono ?_); rw [decide_eq_true (by rw [HDT.out] : z.l.t.l = x.l.t.l)]; rintro E w13 ⟨rfl, hu13⟩; have HU13d := Lib.hid hu13; have HU13 := Lib.hid (HU12.out.call hu13); clear hu13); (try dsimp only))
          refine hK.out _ _ ?_ (fun hHeld => ?_)
          · exact Row.up hHeld HU13d.out
          clear hK K
          (try simp only [Act.put, lga, lgz, lgs, lsa, lsz, lss])
          refine wpAnyH_take (i := 16) (v := ?_) rfl (by decide +kernel) (by decide +kernel) (by decide +kernel) (fun _ _ _ h => h) (Or.inl ⟨by rfl, ?_⟩) (by assumption) ?_
          rotate_left
          · intro w2 hSw
            (try dsimp only at hSw)
            (try (obtain ⟨hs1, hs2⟩ := hSw))
            go_simp
            (try (with_reducible rfl))
          (try simp only [Act.put, lga, lgz, lgs, lsa, lsz, lss])
          refine wpAnyH_take (i := 17) (v := ?_) rfl (by decide +kernel) (by decide +kernel) (by decide +kernel) (fun _ _ _ h => h) (Or.inl ⟨by rfl, ?_⟩) (by assumption) ?_
          rotate_left
          · intro w2 hSw
            (try dsimp only at hSw)
            (try (obtain ⟨hs1, hs2⟩ := hSw))
            go_simp
            (try (with_reducible rfl))
          (try simp only [Act.put, lga, lgz, lgs, lsa, lsz, lss])
          refine wpAnyH_done (by decide +kernel) ?_ _
          go_wp2
          go_ret
          exact ⟨rfl, HUZ.out.call HU13.out⟩

end Go.Proofs.YtoflafbhfoncmaaDoor.Gt
end
