/- The reference's comparisons of what is the same; law 14's alike of two states that say the same. No condition. GstateBalanced, walked. Its condition: the fonts' names as laid. gstate's Copy of any states. Its condition: lengths that an append bears. What GstateApart's loops keep. No condition. GstateApart, walked. Its condition: the fonts' names as laid. -/
import Derived.Test.YtoflafbhfoncmaaDoorGD
import Derived.Test.YtoflafbhfoncmaaDoorGPathS
import Derived.Test.YtoflafbhfoncmaaDoorEq6
import Derived.Test.YtoflafbhfoncmaaDoorEqS
import Derived.BigQuiet
import Derived.Deep.RegionHeld3
import Derived.Test.YtoflafbhfoncmaaDoorGE
import Derived.Deep.CutBlock
import Derived.Deep.AppendLies
import Derived.Deep.MidRow
section
namespace Go.Proofs.YtoflafbhfoncmaaDoor.Pt
open Go.ChangeShapes Go.WideShapes Go.ChangeAt Go.RowKit
open Go.Proofs.YtoflafbhfoncmaaDoor.FixM (fits)
open Go.Proofs.YtoflafbhfoncmaaDoor.PathM (Seg)
open Go.Proofs.YtoflafbhfoncmaaDoor.MatM (M6)
set_option linter.unusedVariables false
set_option linter.unusedSimpArgs false

theorem ints_at {k : IntKind} {w : World} {a : Option Addr} {N c : Nat} {zs : List Int} (h : Ints k w (.slice a N c) zs) (hN : zs.length = N) (h0 : 0 < N) : ∃ g o, a = some ⟨g, o, none⟩ ∧ g < w.heap.size ∧ ∀ i, i < N → w.cell? ⟨g, o + i, none⟩ = some (.int k (zs.getD i 0)) := by
  obtain ⟨ao, c', e, hl, hm, hno, h1, hw⟩ := h
  injection e with e1 e2 e3
  subst e1 e3
  obtain ⟨g, o, h2, h3, h4⟩ := h1 (by omega)
  exact ⟨g, o, h2, h3, fun i hi => h4 i (by omega)⟩

theorem sameI_nil (a1 a2 : Option Addr) (c1 c2 : Nat) (w : World) : Calls Tryd.prog 57 #[.slice a1 0 c1, .slice a2 0 c2] w fun E w' => E = .returned (.bool true) ∧ Up w w' := by
  go_enter Tryd.func57, Tryd.ntmps57
  go_wp2
  go_loop [5] (fun s5 => s5 = .int .i64 0) (fun _ => 0)
  case atStart => rfl
  case round =>
    obtain rfl := hrel
    go_wp2
    go_ret
    exact ⟨rfl, by (repeat' (first | (with_reducible first | exact Up.refl _ | assumption | refine Up.alloc ?_ _ | refine Up.drew ?_ | refine Up.drewN ?_ _ | refine Up.setCell ?_ ?_ _ | refine Up.call ?_ (by assumption)) | go_size))⟩
theorem sameI_calls (a1 a2 : Option Addr) (N c1 c2 : Nat) (zs : List Int) (w : World) (hN : zs.length = N) (hl : N ≤ 1000000000) (h1 : Ints .i64 w (.slice a1 N c1) zs) (h2 : Ints .i64 w (.slice a2 N c2) zs) :
    Calls Tryd.prog 57 #[.slice a1 N c1, .slice a2 N c2] w fun E w' => E = .returned (.bool true) ∧ Up w w' := by
  by_cases h0 : 0 < N
  rotate_left
  · obtain rfl : N = 0 := by omega
    exact sameI_nil a1 a2 c1 c2 w
  obtain ⟨g1, o1, rfl, hg1, hc1⟩ := ints_at h1 hN h0
  obtain ⟨g2, o2, rfl, hg2, hc2⟩ := ints_at h2 hN h0
  have HC1 := Lib.hid hc1
  have HC2 := Lib.hid hc2
  clear h1 h2 hc1 hc2 h0 hN
  go_enter Tryd.func57, Tryd.ntmps57
  go_wp2
  go_loopw [5] (fun i wr => ∃ k : Nat, k ≤ N ∧ i = .int .i64 k ∧ Up w wr) (fun i _ => N - (intOf i).toNat)
  case atStart => exact ⟨0, Nat.zero_le _, rfl, Up.refl _⟩
  case round =>
    obtain ⟨k, hk, rfl, hup⟩ := hrel
    by_cases hlt : k < N
    · obtain ⟨x, hx⟩ : ∃ x, zs.getD k 0 = x := ⟨_, rfl⟩
      have hq1 := (hup.cells.1 g1 (o1 + k) hg1).trans (HC1.out k hlt)
      have hq2 := (hup.cells.1 g2 (o2 + k) hg2).trans (HC2.out k hlt)
      rw [hx] at hq1 hq2
      clear hx
      have hz := hup.size
      go_wp2
      go_quiet (fail)
      go_wp2
      go_roundw
      case rel => exact ⟨k + 1, by omega, by go_num, by (repeat' (first | (with_reducible first | exact Up.refl _ | assumption | refine Up.alloc ?_ _ | refine Up.drew ?_ | refine Up.drewN ?_ _ | refine Up.setCell ?_ ?_ _ | refine Up.call ?_ (by assumption)) | go_size))⟩
      case measure => simp [intOf]; omega
    · obtain rfl : k = N := by omega
      go_wp2
      go_ret
      exact ⟨rfl, by (repeat' (first | (with_reducible first | exact Up.refl _ | assumption | refine Up.alloc ?_ _ | refine Up.drew ?_ | refine Up.drewN ?_ _ | refine Up.setCell ?_ ?_ _ | refine Up.call ?_ (by assumption)) | go_size))⟩

theorem colF : (Tryd.prog.fieldsOf 36).toList.map (fun f => (f.name != "_", f.offset, f.type)) = [(true, 0, 3), (true, 1, 34)] := by kernel_rfl
theorem colU : Tryd.prog.underlying 36 = some (.struct (Tryd.prog.fieldsOf 36)) := by kernel_rfl
theorem colH : Tryd.prog.stoodInHeld 36 = false := by kernel_rfl
theorem colI : (Tryd.prog.info? 34).isSome = true := by kernel_rfl
theorem colC : Tryd.prog.cellsOf 34 = 4 := by kernel_rfl
theorem eq_col (sp p0 p1 p2 p3 : Int) (w : World) : (Op.equalIn 10000 36 (.agg #[.int .i64 sp, .int .i64 p0, .int .i64 p1, .int .i64 p2, .int .i64 p3]) (.agg #[.int .i64 sp, .int .i64 p0, .int .i64 p1, .int .i64 p2, .int .i64 p3])).run Tryd.prog w = .ok true w := by
  obtain ⟨i, hi⟩ := Option.isSome_iff_exists.1 infoInt
  obtain ⟨i', hi'⟩ := Option.isSome_iff_exists.1 colI
  have arr : (Op.equalIn 9999 34 (.agg #[.int .i64 p0, .int .i64 p1, .int .i64 p2, .int .i64 p3]) (.agg #[.int .i64 p0, .int .i64 p1, .int .i64 p2, .int .i64 p3])).run Tryd.prog w = .ok true w := by
    rw [show (9999 : Nat) = 9998 + 1 from rfl, run_equalIn_array (w := w) 9998 _ _ Tryd.underlying34 hi, cellsInt, show List.range 4 = [0, 1, 2, 3] from rfl]
    rw [item_of (j := 0) (run_part_plain w eqsInt rfl) (run_part_plain w eqsInt rfl) (run_equalIn_int w 9997 _ _ .i64 p0 p0 Tryd.underlying3)]
    rw [item_of (j := 1) (run_part_plain w eqsInt rfl) (run_part_plain w eqsInt rfl) (run_equalIn_int w 9997 _ _ .i64 p1 p1 Tryd.underlying3)]
    rw [item_of (j := 2) (run_part_plain w eqsInt rfl) (run_part_plain w eqsInt rfl) (run_equalIn_int w 9997 _ _ .i64 p2 p2 Tryd.underlying3)]
    rw [item_of (j := 3) (run_part_plain w eqsInt rfl) (run_part_plain w eqsInt rfl) (run_equalIn_int w 9997 _ _ .i64 p3 p3 Tryd.underlying3)]
    simp only [Op.eqItems, Sem.run_pure, beq_self_eq_true, cond_true]
  have pt : ∀ (s a b c d : Value), (part 34 #[s, a, b, c, d] 1).run Tryd.prog w = .ok (.agg #[a, b, c, d]) w := fun s a b c d => by
    rw [run_part_agg Tryd.underlying34 rfl hi', colC]
    rfl
  rw [show (10000 : Nat) = 9999 + 1 from rfl, run_equalIn_struct w 9999 _ _ _ colU colH, eqFields_rows, colF]
  rw [row_of (run_part_plain w eqsInt rfl) (run_part_plain w eqsInt rfl) (run_equalIn_int w 9998 _ _ .i64 sp sp Tryd.underlying3)]
  rw [row_of (pt _ _ _ _ _) (pt _ _ _ _ _) arr]
  simp only [eqRows, Sem.run_pure, beq_self_eq_true, cond_true]

theorem segV_slice {w : World} {v : Value} {l : List Seg} (h : Path.SegV w v l) : ∃ a c, v = .slice a l.length c := by
  rcases h with ⟨a, cap, rfl, rfl⟩ | ⟨b, o, cap, rfl, _⟩
  · exact ⟨a, cap, rfl⟩
  · exact ⟨_, cap, rfl⟩
theorem sameC_nil (a1 a2 : Option Addr) (c1 c2 : Nat) (w : World) : Calls Tryd.prog 42 #[.slice a1 0 c1, .slice a2 0 c2] w fun E w' => E = .returned (.bool true) ∧ Up w w' := by
  go_enter Tryd.func42, Tryd.ntmps42
  go_wp2
  go_loop [5] (fun s5 => s5 = .int .i64 0) (fun _ => 0)
  case atStart => rfl
  case round =>
    obtain rfl := hrel
    go_wp2
    go_ret
    exact ⟨rfl, by (repeat' (first | (with_reducible first | exact Up.refl _ | assumption | refine Up.alloc ?_ _ | refine Up.drew ?_ | refine Up.drewN ?_ _ | refine Up.setCell ?_ ?_ _ | refine Up.call ?_ (by assumption)) | go_size))⟩
set_option maxRecDepth 8000 in
set_option maxHeartbeats 2000000 in
theorem sameC_calls (a1 a2 : Option Addr) (N c1 c2 : Nat) (l1 l2 : List Clip) (w : World) (h1 : Sl 2 Clip.cells w a1 N c1 l1) (h2 : Sl 2 Clip.cells w a2 N c2 l2) (s1 : ∀ c ∈ l1, Path.SegV w c.v c.l) (s2 : ∀ c ∈ l2, Path.SegV w c.v c.l) (he : l1.map (fun c => (c.l, c.eo)) = l2.map (fun c => (c.l, c.eo))) :
    Calls Tryd.prog 42 #[.slice a1 N c1, .slice a2 N c2] w fun E w' => E = .returned (.bool true) ∧ Up w w' := by
  by_cases h0 : 0 < N
  rotate_left
  · obtain rfl : N = 0 := by omega
    exact sameC_nil a1 a2 c1 c2 w
  have hn1 := h1.2.2.1
  have hn2 := h2.2.2.1
  have hmx := h1.2.1
  have hmx0 := h1.1
  obtain ⟨g1, o1, rfl, hg1, hc1⟩ := h1.2.2.2.2 h0
  obtain ⟨g2, o2, rfl, hg2, hc2⟩ := h2.2.2.2.2 h0
  have HC1 := Lib.hid hc1
  have HC2 := Lib.hid hc2
  have HS1 := Lib.hid s1
  have HS2 := Lib.hid s2
  have HE := Lib.hid he
  have HN1 := Lib.hid hn1
  have HN2 := Lib.hid hn2
  clear h1 h2 hc1 hc2 s1 s2 he hn1 hn2
  have hl : N ≤ 9223372036854775807 := by omega
  go_enter Tryd.func42, Tryd.ntmps42
  go_wp2
  go_loopw [5] (fun i wr => ∃ k : Nat, k ≤ N ∧ i = .int .i64 k ∧ Up w wr) (fun i _ => N - (intOf i).toNat)
  case atStart => exact ⟨0, Nat.zero_le _, rfl, Up.refl _⟩
  case round =>
    obtain ⟨k, hk, rfl, hup⟩ := hrel
    by_cases hlt : k < N
    · obtain ⟨x, hx⟩ : ∃ x, l1[k]? = some x := ⟨_, List.getElem?_eq_getElem (by have := HN1.out; omega)⟩
      obtain ⟨y, hy⟩ : ∃ y, l2[k]? = some y := ⟨_, List.getElem?_eq_getElem (by have := HN2.out; omega)⟩
      have hxy : (x.l, x.eo) = (y.l, y.eo) := by
        have h3 : (l1.map (fun c => (c.l, c.eo)))[k]? = (l2.map (fun c => (c.l, c.eo)))[k]? := by rw [HE.out]
        rw [List.getElem?_map, List.getElem?_map, hx, hy] at h3
        exact Option.some.inj h3
      have hsx := HS1.out x (List.mem_of_getElem? hx)
      have hsy := HS2.out y (List.mem_of_getElem? hy)
      have u10 := HC1.out k x 0 _ hx rfl
      have u11 := HC1.out k x 1 _ hx rfl
      have u20 := HC2.out k y 0 _ hy rfl
      have u21 := HC2.out k y 1 _ hy rfl
      obtain ⟨xv, xl, xe⟩ := x
      obtain ⟨yv, yl, ye⟩ := y
      simp only [Prod.mk.injEq] at hxy
      obtain ⟨rfl, rfl⟩ := hxy
      simp only at u10 u11 u20 u21 hsx hsy
      obtain ⟨ax, cx, rfl⟩ := segV_slice hsx
      obtain ⟨ay, cy, rfl⟩ := segV_slice hsy
      generalize hL : xl.length = nl at *
      have HSX := Lib.hid hsx
      have HSY := Lib.hid hsy
      have q10 := (hup.cells.1 g1 _ hg1).trans u10
      have q11 := (hup.cells.1 g1 _ hg1).trans u11
      have q20 := (hup.cells.1 g2 _ hg2).trans u20
      have q21 := (hup.cells.1 g2 _ hg2).trans u21
      simp only [Nat.add_zero] at q10 q20
      clear u10 u11 u20 u21 hx hy hsx hsy hL
      have hz := hup.size
      have hd : (xe != xe) = false := by simp
      go_wp2
      go_region_held3 (fun w' => w'.cell? ⟨g1, o1 + k * 2, none⟩ = some (.slice ax nl cx) ∧ w'.cell? ⟨g1, o1 + k * 2 + 1, none⟩ = some (.bool xe) ∧ w'.cell? ⟨g2, o2 + k * 2, none⟩ = some (.slice ay nl cy) ∧ w'.cell? ⟨g2, o2 + k * 2 + 1, none⟩ = some (.bool xe)) (first | with_reducible exact ⟨x10, x11, x20, x21⟩ | with_reducible exact ⟨q10, q11, q20, q21⟩ | go_keep) ((go_at_call 16; ((with_reducible refine (Path.same_calls _ _ xl xl _ (HSX.out.up (by (repeat' (first | (with_reducible first | exact Up.refl _ | assumption | refine Up.alloc ?_ _ | refine Up.drew ?_ | refine Up.drewN ?_ _ | refine Up.setCell ?_ ?_ _ | refine Up.call ?_ (by assumption)) | go_size)))) (HSY.out.up (by (repeat' (first | (with_reducible first | exact Up.refl _ | assumption | refine Up.alloc ?_ _ | refine Up.drew ?_ | refine Up.drewN ?_ _ | refine Up.setCell ?_ ?_ _ | refine Up.call ?_ (by assumption)) | go_size))))).mono ?_); rw [decide_eq_true (rfl : xl = xl)]; rintro E w1 ⟨rfl, hu1⟩; have z1 := hu1.size; have x10 := cell_up hu1 q10; have x11 := cell_up hu1 q11; have x20 := cell_up hu1 q20; have x21 := cell_up hu1 q21)))
      go_wp2
      go_roundw
      case rel => exact ⟨k + 1, by omega, by go_num, by (repeat' (first | (with_reducible first | exact Up.refl _ | assumption | refine Up.alloc ?_ _ | refine Up.drew ?_ | refine Up.drewN ?_ _ | refine Up.setCell ?_ ?_ _ | refine Up.call ?_ (by assumption)) | go_size))⟩
      case measure => simp [intOf]; omega
    · obtain rfl : k = N := by omega
      go_wp2
      go_ret
      exact ⟨rfl, by (repeat' (first | (with_reducible first | exact Up.refl _ | assumption | refine Up.alloc ?_ _ | refine Up.drew ?_ | refine Up.drewN ?_ _ | refine Up.setCell ?_ ?_ _ | refine Up.call ?_ (by assumption)) | go_size))⟩

set_option maxRecDepth 8000 in
set_option maxHeartbeats 1000000 in
theorem samePen_eq (wd cp jn mt ph : Int) (a1 a2 : Option Addr) (N c1 c2 : Nat) (zs : List Int) (w : World) (hN : zs.length = N) (hl : N ≤ 1000000000) (h1 : Ints .i64 w (.slice a1 N c1) zs) (h2 : Ints .i64 w (.slice a2 N c2) zs) : Calls Tryd.prog 41 #[.agg #[.int .i64 wd, .int .i64 cp, .int .i64 jn, .int .i64 mt, .slice a1 N c1, .int .i64 ph], .agg #[.int .i64 wd, .int .i64 cp, .int .i64 jn, .int .i64 mt, .slice a2 N c2, .int .i64 ph]] w fun E w' => E = .returned (.bool true) ∧ Up w w' := by
  have H1 := Lib.hid h1
  have H2 := Lib.hid h2
  have HN := Lib.hid hN
  clear h1 h2 hN
  go_enter Tryd.func41, Tryd.ntmps41
  go_wp2_with (go_at_call 57; ((with_reducible refine (sameI_calls _ _ N _ _ zs _ HN.out hl (H1.out.up (by (repeat' (first | (with_reducible first | exact Up.refl _ | assumption | refine Up.alloc ?_ _ | refine Up.drew ?_ | refine Up.drewN ?_ _ | refine Up.setCell ?_ ?_ _ | refine Up.call ?_ (by assumption)) | go_size)))) (H2.out.up (by (repeat' (first | (with_reducible first | exact Up.refl _ | assumption | refine Up.alloc ?_ _ | refine Up.drew ?_ | refine Up.drewN ?_ _ | refine Up.setCell ?_ ?_ _ | refine Up.call ?_ (by assumption)) | go_size))))).mono ?_); rintro E w1 ⟨rfl, hu1⟩; have RP_w1 : Row w1 w.heap.size #[.int .i64 wd, .int .i64 cp, .int .i64 jn, .int .i64 mt, .slice a1 N c1, .int .i64 ph] := Row.up (show Row _ w.heap.size #[.int .i64 wd, .int .i64 cp, .int .i64 jn, .int .i64 mt, .slice a1 N c1, .int .i64 ph] by (repeat' (with_reducible first | assumption | (refine Row.at _ _ ?_; (simp; done)) | refine Row.alloc ?_ _ | refine Row.drew ?_ | refine Row.drewN ?_ _ | refine Row.other ?_ (by first | (simp; done) | (simp; omega) | omega) _ | refine Row.up ?_ (by assumption) | refine Row.chg ?_ (by assumption) (by first | (simp; done) | (simp; omega))))) hu1; have lP_w1 := RP_w1.lt; have cP_w1_5 : w1.cell? ⟨w.heap.size, 5, none⟩ = some (.int .i64 ph) := RP_w1.cell 5 rfl; have RQ_w1 : Row w1 (w.heap.size + 1) #[.int .i64 wd, .int .i64 cp, .int .i64 jn, .int .i64 mt, .slice a2 N c2, .int .i64 ph] := Row.up (show Row _ (w.heap.size + 1) #[.int .i64 wd, .int .i64 cp, .int .i64 jn, .int .i64 mt, .slice a2 N c2, .int .i64 ph] by (repeat' (with_reducible first | assumption | (refine Row.at _ _ ?_; (simp; done)) | refine Row.alloc ?_ _ | refine Row.drew ?_ | refine Row.drewN ?_ _ | refine Row.other ?_ (by first | (simp; done) | (simp; omega) | omega) _ | refine Row.up ?_ (by assumption) | refine Row.chg ?_ (by assumption) (by first | (simp; done) | (simp; omega))))) hu1; have lQ_w1 := RQ_w1.lt; have cQ_w1_5 : w1.cell? ⟨w.heap.size + 1, 5, none⟩ = some (.int .i64 ph) := RQ_w1.cell 5 rfl))
  go_ret
  exact ⟨rfl, by (repeat' (first | (with_reducible first | exact Up.refl _ | assumption | refine Up.alloc ?_ _ | refine Up.drew ?_ | refine Up.drewN ?_ _ | refine Up.setCell ?_ ?_ _ | refine Up.call ?_ (by assumption)) | go_size))⟩

end Go.Proofs.YtoflafbhfoncmaaDoor.Pt
namespace Go.Proofs.YtoflafbhfoncmaaDoor.Gt
open Go.ChangeShapes Go.WideShapes Go.ChangeAt Go.RowKit
open Go.Proofs.YtoflafbhfoncmaaDoor.FixM (fits)
open Go.Proofs.YtoflafbhfoncmaaDoor.MatM (M6)
open Go.Proofs.YtoflafbhfoncmaaDoor.PathM (Seg St Z segCells)
open Go.Proofs.YtoflafbhfoncmaaDoor.Path (own own_mem own_of PathIs Segs)
open Go.Proofs.YtoflafbhfoncmaaDoor.Pt (Clip clipCells Src)
set_option linter.unusedVariables false
set_option linter.unusedSimpArgs false

set_option maxRecDepth 8000 in
set_option maxHeartbeats 2000000 in
theorem alike_cells (cm : M6) (sp p0 p1 p2 p3 wd cp jn mt : Int) (da ea : Option Addr) (dl dc ec : Nat) (ph fn : Int) (fm : M6) (ca fa : Option Addr) (cl cc fc : Nat) (dk : Bool) (zs : List Int) (l1 l2 : List Clip) (w : World) (hN : zs.length = dl) (hl : dl ≤ 1000000000) (d1 : Ints .i64 w (.slice da dl dc) zs) (d2 : Ints .i64 w (.slice ea dl ec) zs)
    (c1 : Sl 2 Clip.cells w ca cl cc l1) (c2 : Sl 2 Clip.cells w fa cl fc l2) (s1 : ∀ c ∈ l1, Path.SegV w c.v c.l) (s2 : ∀ c ∈ l2, Path.SegV w c.v c.l) (he : l1.map (fun c => (c.l, c.eo)) = l2.map (fun c => (c.l, c.eo))) :
    Calls Tryd.prog 15 #[.agg #[.int .i64 cm.a, .int .i64 cm.b, .int .i64 cm.c, .int .i64 cm.d, .int .i64 cm.x, .int .i64 cm.y, .int .i64 sp, .int .i64 p0, .int .i64 p1, .int .i64 p2, .int .i64 p3, .int .i64 wd, .int .i64 cp, .int .i64 jn, .int .i64 mt, .slice da dl dc, .int .i64 ph, .int .i64 fn, .int .i64 fm.a, .int .i64 fm.b, .int .i64 fm.c, .int .i64 fm.d, .int .i64 fm.x, .int .i64 fm.y, .slice ca cl cc, .bool dk], .agg #[.int .i64 cm.a, .int .i64 cm.b, .int .i64 cm.c, .int .i64 cm.d, .int .i64 cm.x, .int .i64 cm.y, .int .i64 sp, .int .i64 p0, .int .i64 p1, .int .i64 p2, .int .i64 p3, .int .i64 wd, .int .i64 cp, .int .i64 jn, .int .i64 mt, .slice ea dl ec, .int .i64 ph, .int .i64 fn, .int .i64 fm.a, .int .i64 fm.b, .int .i64 fm.c, .int .i64 fm.d, .int .i64 fm.x, .int .i64 fm.y, .slice fa cl fc, .bool dk]] w fun E w' => E = .returned (.bool true) ∧ Up w w' := by
  have e1 : ∀ W, (Op.equalIn 10000 26 (.agg #[.int .i64 cm.a, .int .i64 cm.b, .int .i64 cm.c, .int .i64 cm.d, .int .i64 cm.x, .int .i64 cm.y]) (.agg #[.int .i64 cm.a, .int .i64 cm.b, .int .i64 cm.c, .int .i64 cm.d, .int .i64 cm.x, .int .i64 cm.y])).run Tryd.prog W = .ok true W := fun W => by rw [run_eq6]; simp [all6]
  have e2 := Pt.eq_col sp p0 p1 p2 p3
  have e3 : ∀ W, (Op.equalIn 10000 26 (.agg #[.int .i64 fm.a, .int .i64 fm.b, .int .i64 fm.c, .int .i64 fm.d, .int .i64 fm.x, .int .i64 fm.y]) (.agg #[.int .i64 fm.a, .int .i64 fm.b, .int .i64 fm.c, .int .i64 fm.d, .int .i64 fm.x, .int .i64 fm.y])).run Tryd.prog W = .ok true W := fun W => by rw [run_eq6]; simp [all6]
  have e4 : (fn == fn) = true := by simp
  have e5 : (dk == dk) = true := by simp
  have HN := Lib.hid hN
  have D1 := Lib.hid d1
  have D2 := Lib.hid d2
  have C1 := Lib.hid c1
  have C2 := Lib.hid c2
  have S1 := Lib.hid s1
  have S2 := Lib.hid s2
  have HE := Lib.hid he
  clear hN d1 d2 c1 c2 s1 s2 he
  go_enter Tryd.func15, Tryd.ntmps15
  go_wp2_with (first
    | (go_at_call 41; ((with_reducible refine (Pt.samePen_eq _ _ _ _ _ _ _ dl _ _ zs _ HN.out hl (D1.out.up (by (repeat' (first | (with_reducible first | exact Up.refl _ | assumption | refine Up.alloc ?_ _ | refine Up.drew ?_ | refine Up.drewN ?_ _ | refine Up.setCell ?_ ?_ _ | refine Up.call ?_ (by assumption)) | go_size)))) (D2.out.up (by (repeat' (first | (with_reducible first | exact Up.refl _ | assumption | refine Up.alloc ?_ _ | refine Up.drew ?_ | refine Up.drewN ?_ _ | refine Up.setCell ?_ ?_ _ | refine Up.call ?_ (by assumption)) | go_size))))).mono ?_); rintro E w1 ⟨rfl, hu1⟩; have z1 := hu1.size; (try simp at z1); have W10 : Row w1 (w.heap.size) #[.int .i64 cm.a, .int .i64 cm.b, .int .i64 cm.c, .int .i64 cm.d, .int .i64 cm.x, .int .i64 cm.y, .int .i64 sp, .int .i64 p0, .int .i64 p1, .int .i64 p2, .int .i64 p3, .int .i64 wd, .int .i64 cp, .int .i64 jn, .int .i64 mt, .slice da dl dc, .int .i64 ph, .int .i64 fn, .int .i64 fm.a, .int .i64 fm.b, .int .i64 fm.c, .int .i64 fm.d, .int .i64 fm.x, .int .i64 fm.y, .slice ca cl cc, .bool dk] := Row.up (show Row _ (w.heap.size) #[.int .i64 cm.a, .int .i64 cm.b, .int .i64 cm.c, .int .i64 cm.d, .int .i64 cm.x, .int .i64 cm.y, .int .i64 sp, .int .i64 p0, .int .i64 p1, .int .i64 p2, .int .i64 p3, .int .i64 wd, .int .i64 cp, .int .i64 jn, .int .i64 mt, .slice da dl dc, .int .i64 ph, .int .i64 fn, .int .i64 fm.a, .int .i64 fm.b, .int .i64 fm.c, .int .i64 fm.d, .int .i64 fm.x, .int .i64 fm.y, .slice ca cl cc, .bool dk] by (repeat' (with_reducible first | assumption | (refine Row.at _ _ ?_; (simp; done)) | refine Row.alloc ?_ _ | refine Row.drew ?_ | refine Row.drewN ?_ _ | refine Row.other ?_ (by first | (simp; done) | (simp; omega) | omega) _ | refine Row.up ?_ (by assumption) | refine Row.chg ?_ (by assumption) (by first | (simp; done) | (simp; omega))))) hu1; have w10_17 : w1.cell? ⟨w.heap.size, 17, none⟩ = some (.int .i64 fn) := W10.cell 17 rfl; have w10_18 : w1.cell? ⟨w.heap.size, 18, none⟩ = some (.int .i64 fm.a) := W10.cell 18 rfl; have w10_19 : w1.cell? ⟨w.heap.size, 19, none⟩ = some (.int .i64 fm.b) := W10.cell 19 rfl; have w10_20 : w1.cell? ⟨w.heap.size, 20, none⟩ = some (.int .i64 fm.c) := W10.cell 20 rfl; have w10_21 : w1.cell? ⟨w.heap.size, 21, none⟩ = some (.int .i64 fm.d) := W10.cell 21 rfl; have w10_22 : w1.cell? ⟨w.heap.size, 22, none⟩ = some (.int .i64 fm.x) := W10.cell 22 rfl; have w10_23 : w1.cell? ⟨w.heap.size, 23, none⟩ = some (.int .i64 fm.y) := W10.cell 23 rfl; have w10_24 : w1.cell? ⟨w.heap.size, 24, none⟩ = some (.slice ca cl cc) := W10.cell 24 rfl; have w10_25 : w1.cell? ⟨w.heap.size, 25, none⟩ = some (.bool dk) := W10.cell 25 rfl; have W11 : Row w1 (w.heap.size + 1) #[.int .i64 cm.a, .int .i64 cm.b, .int .i64 cm.c, .int .i64 cm.d, .int .i64 cm.x, .int .i64 cm.y, .int .i64 sp, .int .i64 p0, .int .i64 p1, .int .i64 p2, .int .i64 p3, .int .i64 wd, .int .i64 cp, .int .i64 jn, .int .i64 mt, .slice ea dl ec, .int .i64 ph, .int .i64 fn, .int .i64 fm.a, .int .i64 fm.b, .int .i64 fm.c, .int .i64 fm.d, .int .i64 fm.x, .int .i64 fm.y, .slice fa cl fc, .bool dk] := Row.up (show Row _ (w.heap.size + 1) #[.int .i64 cm.a, .int .i64 cm.b, .int .i64 cm.c, .int .i64 cm.d, .int .i64 cm.x, .int .i64 cm.y, .int .i64 sp, .int .i64 p0, .int .i64 p1, .int .i64 p2, .int .i64 p3, .int .i64 wd, .int .i64 cp, .int .i64 jn, .int .i64 mt, .slice ea dl ec, .int .i64 ph, .int .i64 fn, .int .i64 fm.a, .int .i64 fm.b, .int .i64 fm.c, .int .i64 fm.d, .int .i64 fm.x, .int .i64 fm.y, .slice fa cl fc, .bool dk] by (repeat' (with_reducible first | assumption | (refine Row.at _ _ ?_; (simp; done)) | refine Row.alloc ?_ _ | refine Row.drew ?_ | refine Row.drewN ?_ _ | refine Row.other ?_ (by first | (simp; done) | (simp; omega) | omega) _ | refine Row.up ?_ (by assumption) | refine Row.chg ?_ (by assumption) (by first | (simp; done) | (simp; omega))))) hu1; have w11_17 : w1.cell? ⟨w.heap.size + 1, 17, none⟩ = some (.int .i64 fn) := W11.cell 17 rfl; have w11_18 : w1.cell? ⟨w.heap.size + 1, 18, none⟩ = some (.int .i64 fm.a) := W11.cell 18 rfl; have w11_19 : w1.cell? ⟨w.heap.size + 1, 19, none⟩ = some (.int .i64 fm.b) := W11.cell 19 rfl; have w11_20 : w1.cell? ⟨w.heap.size + 1, 20, none⟩ = some (.int .i64 fm.c) := W11.cell 20 rfl; have w11_21 : w1.cell? ⟨w.heap.size + 1, 21, none⟩ = some (.int .i64 fm.d) := W11.cell 21 rfl; have w11_22 : w1.cell? ⟨w.heap.size + 1, 22, none⟩ = some (.int .i64 fm.x) := W11.cell 22 rfl; have w11_23 : w1.cell? ⟨w.heap.size + 1, 23, none⟩ = some (.int .i64 fm.y) := W11.cell 23 rfl; have w11_24 : w1.cell? ⟨w.heap.size + 1, 24, none⟩ = some (.slice fa cl fc) := W11.cell 24 rfl; have w11_25 : w1.cell? ⟨w.heap.size + 1, 25, none⟩ = some (.bool dk) := W11.cell 25 rfl))
    | (go_at_call 42; ((with_reducible refine (Pt.sameC_calls _ _ cl _ _ l1 l2 _ (Pt.sl_up C1.out (by (repeat' (first | (with_reducible first | exact Up.refl _ | assumption | refine Up.alloc ?_ _ | refine Up.drew ?_ | refine Up.drewN ?_ _ | refine Up.setCell ?_ ?_ _ | refine Up.call ?_ (by assumption)) | go_size)))) (Pt.sl_up C2.out (by (repeat' (first | (with_reducible first | exact Up.refl _ | assumption | refine Up.alloc ?_ _ | refine Up.drew ?_ | refine Up.drewN ?_ _ | refine Up.setCell ?_ ?_ _ | refine Up.call ?_ (by assumption)) | go_size)))) (fun c hc => (S1.out c hc).up (by (repeat' (first | (with_reducible first | exact Up.refl _ | assumption | refine Up.alloc ?_ _ | refine Up.drew ?_ | refine Up.drewN ?_ _ | refine Up.setCell ?_ ?_ _ | refine Up.call ?_ (by assumption)) | go_size)))) (fun c hc => (S2.out c hc).up (by (repeat' (first | (with_reducible first | exact Up.refl _ | assumption | refine Up.alloc ?_ _ | refine Up.drew ?_ | refine Up.drewN ?_ _ | refine Up.setCell ?_ ?_ _ | refine Up.call ?_ (by assumption)) | go_size)))) HE.out).mono ?_); rintro E w2 ⟨rfl, hu2⟩; have z2 := hu2.size; (try simp at z2); have W20 : Row w2 (w.heap.size) #[.int .i64 cm.a, .int .i64 cm.b, .int .i64 cm.c, .int .i64 cm.d, .int .i64 cm.x, .int .i64 cm.y, .int .i64 sp, .int .i64 p0, .int .i64 p1, .int .i64 p2, .int .i64 p3, .int .i64 wd, .int .i64 cp, .int .i64 jn, .int .i64 mt, .slice da dl dc, .int .i64 ph, .int .i64 fn, .int .i64 fm.a, .int .i64 fm.b, .int .i64 fm.c, .int .i64 fm.d, .int .i64 fm.x, .int .i64 fm.y, .slice ca cl cc, .bool dk] := Row.up (show Row _ (w.heap.size) #[.int .i64 cm.a, .int .i64 cm.b, .int .i64 cm.c, .int .i64 cm.d, .int .i64 cm.x, .int .i64 cm.y, .int .i64 sp, .int .i64 p0, .int .i64 p1, .int .i64 p2, .int .i64 p3, .int .i64 wd, .int .i64 cp, .int .i64 jn, .int .i64 mt, .slice da dl dc, .int .i64 ph, .int .i64 fn, .int .i64 fm.a, .int .i64 fm.b, .int .i64 fm.c, .int .i64 fm.d, .int .i64 fm.x, .int .i64 fm.y, .slice ca cl cc, .bool dk] by (repeat' (with_reducible first | assumption | (refine Row.at _ _ ?_; (simp; done)) | refine Row.alloc ?_ _ | refine Row.drew ?_ | refine Row.drewN ?_ _ | refine Row.other ?_ (by first | (simp; done) | (simp; omega) | omega) _ | refine Row.up ?_ (by assumption) | refine Row.chg ?_ (by assumption) (by first | (simp; done) | (simp; omega))))) hu2; have w20_25 : w2.cell? ⟨w.heap.size, 25, none⟩ = some (.bool dk) := W20.cell 25 rfl; have W21 : Row w2 (w.heap.size + 1) #[.int .i64 cm.a, .int .i64 cm.b, .int .i64 cm.c, .int .i64 cm.d, .int .i64 cm.x, .int .i64 cm.y, .int .i64 sp, .int .i64 p0, .int .i64 p1, .int .i64 p2, .int .i64 p3, .int .i64 wd, .int .i64 cp, .int .i64 jn, .int .i64 mt, .slice ea dl ec, .int .i64 ph, .int .i64 fn, .int .i64 fm.a, .int .i64 fm.b, .int .i64 fm.c, .int .i64 fm.d, .int .i64 fm.x, .int .i64 fm.y, .slice fa cl fc, .bool dk] := Row.up (show Row _ (w.heap.size + 1) #[.int .i64 cm.a, .int .i64 cm.b, .int .i64 cm.c, .int .i64 cm.d, .int .i64 cm.x, .int .i64 cm.y, .int .i64 sp, .int .i64 p0, .int .i64 p1, .int .i64 p2, .int .i64 p3, .int .i64 wd, .int .i64 cp, .int .i64 jn, .int .i64 mt, .slice ea dl ec, .int .i64 ph, .int .i64 fn, .int .i64 fm.a, .int .i64 fm.b, .int .i64 fm.c, .int .i64 fm.d, .int .i64 fm.x, .int .i64 fm.y, .slice fa cl fc, .bool dk] by (repeat' (with_reducible first | assumption | (refine Row.at _ _ ?_; (simp; done)) | refine Row.alloc ?_ _ | refine Row.drew ?_ | refine Row.drewN ?_ _ | refine Row.other ?_ (by first | (simp; done) | (simp; omega) | omega) _ | refine Row.up ?_ (by assumption) | refine Row.chg ?_ (by assumption) (by first | (simp; done) | (simp; omega))))) hu2; have w21_25 : w2.cell? ⟨w.heap.size + 1, 25, none⟩ = some (.bool dk) := W21.cell 25 rfl)))
  go_ret
  exact ⟨rfl, by (repeat' (first | (with_reducible first | exact Up.refl _ | assumption | refine Up.alloc ?_ _ | refine Up.drew ?_ | refine Up.drewN ?_ _ | refine Up.setCell ?_ ?_ _ | refine Up.call ?_ (by assumption)) | go_size))⟩
theorem alike_S (x y : S) (w : World) (h1 : SO w x) (h2 : SO w y) (he : x.dat = y.dat) (hl : x.ds.length ≤ 1000000000) : Calls Tryd.prog 15 #[.agg x.cells.toArray, .agg y.cells.toArray] w fun E w' => E = .returned (.bool true) ∧ Up w w' := by
  obtain ⟨ca, cl, cc, ec, hc⟩ := Pt.owns_sl Pt.clip_len h1.cv
  obtain ⟨fa, fl, fc, ef, hf⟩ := Pt.owns_sl Pt.clip_len h2.cv
  obtain ⟨da, dc, ed⟩ := owned_val h1.dv
  obtain ⟨ea, ez, ee⟩ := owned_val h2.dv
  have i1 := owns_ints h1.dv h1.dw
  have i2 := owns_ints h2.dv h2.dw
  have s1 : ∀ c ∈ x.cl, Path.SegV w c.v c.l := fun c hc => (h1.cs c hc).v
  have s2 : ∀ c ∈ y.cl, Path.SegV w c.v c.l := fun c hc => (h2.cs c hc).v
  obtain ⟨cm, sp, p0, p1, p2, p3, wd, cp, jn, mt, dv, ds, ph, fn, fm, cv, cs, dk⟩ := x
  obtain ⟨cm', sp', p0', p1', p2', p3', wd', cp', jn', mt', dv', ds', ph', fn', fm', cv', cs', dk'⟩ := y
  simp only [S.dat, SD.mk.injEq, Prod.mk.injEq] at he
  obtain ⟨rfl, ⟨rfl, rfl, rfl, rfl, rfl⟩, ⟨rfl, rfl, rfl, rfl⟩, rfl, rfl, rfl, rfl, hcl, rfl⟩ := he
  simp only at ec ef ed ee i1 i2 s1 s2 hc hf hl
  subst ec ef ed ee
  have hcn := hc.2.2.1
  have hfn := hf.2.2.1
  have hlen : cs.length = cs'.length := by have := congrArg List.length hcl; simpa using this
  obtain rfl : fl = cl := by omega
  exact alike_cells cm sp p0 p1 p2 p3 wd cp jn mt da ea ds.length dc ez ph fn fm ca fa fl cc fc dk ds cs cs' w rfl hl i1 i2 hc hf s1 s2 hcl

end Go.Proofs.YtoflafbhfoncmaaDoor.Gt
end

section
namespace Go.Proofs.YtoflafbhfoncmaaDoor.Gt
open List renaming getElem_toArray → lga, getElem_cons_zero → lgz, getElem_cons_succ → lgs, setIfInBounds_toArray → lsa, set_cons_zero → lsz, set_cons_succ → lss
open Go.ChangeShapes Go.WideShapes Go.ChangeAt Go.RowKit
open Go.Proofs.YtoflafbhfoncmaaDoor.FixM (fits)
open Go.Proofs.YtoflafbhfoncmaaDoor.MatM (M6)
open Go.Proofs.YtoflafbhfoncmaaDoor.PathM (Seg St Z segCells)
open Go.Proofs.YtoflafbhfoncmaaDoor.Path (own own_mem own_of PathIs Segs)
open Go.Proofs.YtoflafbhfoncmaaDoor.Pt (Clip clipCells Src)
set_option linter.unusedVariables false
set_option linter.unusedSimpArgs false

theorem at_op {P : Program} {ops : Array Oper} {rest : List Oper} {o : Oper} {a : Act} {w : World} {Q : Exit → Act → World → Prop} (op : Op) (ho : o.op = op) (h : wpList P ops Q (o :: rest) a w) : wpList P ops Q (o :: rest) a w := h
set_option maxRecDepth 8000 in
set_option maxHeartbeats 8000000 in
theorem balanced {w : World} (a0 : Option Addr) (n0 c0 : Nat) (l0 : List AV) (a1 : Option Addr) (n1 c1 : Nat) (l1 : List AV) (g0 : Acts w a0 n0 c0 l0) (g1 : Acts w a1 n1 c1 l1) (hT : Font.Tab w) :
    Calls Tryd.prog 3 #[.slice a0 n0 c0, .slice a1 n1 c1] w fun e w' => e = .returned (.bool true) ∧ Up w w' := by
  have HS0 := Lib.hid g0.1
  have HO0 := Lib.hid g0.2
  have HS1 := Lib.hid g1.1
  have HO1 := Lib.hid g1.2
  have HT := Lib.hid hT
  have hcap0 : n0 ≤ c0 := HS0.out.1
  have hcap1 : n1 ≤ c1 := HS1.out.1
  have hbig0 : c0 ≤ 9223372036854775807 := HS0.out.2.1
  have hbig1 : c1 ≤ 9223372036854775807 := HS1.out.2.1
  clear g0 g1 hT
  go_enter Tryd.func3, Tryd.ntmps3
  go_upto_block 0 with (first
    | (go_at_call 6; ((with_reducible refine (gnew_X 100 30 _).mono ?_); rintro E w1 ⟨g, x0, rfl, hg1, hd1, hn1, hu1⟩; have HA1 := Lib.hid (show At w w1 g x0 0 from ⟨hu1, hg1, hn1, by rw [hd1]; exact ⟨start_ok _ _ _, (fun s hs => by cases hs), Nat.le_refl _⟩, by rw [hd1]; rfl⟩); clear hg1 hd1 hn1 hu1))
    | (go_at_call 7; ((with_reducible refine (Gs.answers_calls _).mono ?_); rintro E w2 ⟨rfl, hu2⟩; have HA2 := Lib.hid (show At w w2 g x0 0 from ⟨HA1.out.up.call hu2, HA1.out.gg.up hu2, HA1.out.new, HA1.out.v, HA1.out.most⟩); clear hu2)))
  go_cut [6] from 21 to 51 (fun s6 wx => ∃ (k : Nat) (x : X), k ≤ 40 ∧ Hid (At w wx g x k))
  case first =>
    go_wp2_with fail
    go_loopw [6] (fun i wr => ∃ (k : Nat) (x : X), k ≤ 40 ∧ k ≤ n0 ∧ i = .int .i64 k ∧ Hid (At w wr g x k)) (fun i _ => 40 - (intOf i).toNat)
    case atStart => exact ⟨0, x0, by omega, by omega, rfl, HA2⟩
    case round =>
      obtain ⟨k, x, hk, hkn, rfl, hA⟩ := hrel
      by_cases h1 : k < n0
      rotate_left
      · have t1 : decide (k < n0) = false := decide_eq_false h1
        go_wp2
        go_meet
        case rel => exact ⟨k, x, hk, hA⟩
      by_cases h2 : k < 40
      rotate_left
      · go_wp2
        go_meet
        case rel => exact ⟨k, x, hk, hA⟩
      · skip
        obtain ⟨b0, o0, rfl, hb0, hc0⟩ := HS0.out.2.2.2.2 (by omega)
        obtain ⟨v, hv⟩ : ∃ v, l0[k]? = some v := ⟨_, List.getElem?_eq_getElem (by have := HS0.out.2.2.1; omega)⟩
        have hok := HO0.out v (List.mem_of_getElem? hv)
        have hrg := act_cells hb0 hc0 hA.out.up hv
        obtain ⟨D, N, m, av, lv, cv, zs, px, py⟩ := v
        have HOK := Lib.hid hok
        have q0 : wr.cell? ⟨b0, o0 + k * 11, none⟩ = some (.int .i64 D) := hrg 0 _ rfl
        have q8 : wr.cell? ⟨b0, o0 + k * 11 + 8, none⟩ = some (.slice av lv cv) := hrg 8 _ rfl
        have HRG : Hid (wr.rangeAt b0 (o0 + k * 11) [.int .i64 D, .int .i64 N, .int .i64 m.a, .int .i64 m.b, .int .i64 m.c, .int .i64 m.d, .int .i64 m.x, .int .i64 m.y, .slice av lv cv, .int .i64 px, .int .i64 py]) := Lib.hid hrg
        clear hok hrg hb0 hc0 hv
        by_cases h100 : lv ≤ 100
        rotate_left
        · have t1 : decide ((lv : Int) ≤ 100) = false := decide_eq_false (by omega)
          go_wp2
          go_roundw
          case rel => exact ⟨k + 1, x, by omega, by omega, by go_num, Lib.hid (hA.out.skip (Up.refl _))⟩
          case measure => simp [intOf]; omega
        have t1 : decide ((lv : Int) ≤ 100) = true := decide_eq_true (by omega)
        by_cases h3 : D = 3
        · have t3 : (D != 3) = false := by simp [h3]
          clear h3
          go_wp2
          go_roundw
          case rel => exact ⟨k + 1, x, by omega, by omega, by go_num, Lib.hid (hA.out.skip (Up.refl _))⟩
          case measure => simp [intOf]; omega
        have t3 : (D != 3) = true := by simp [h3]
        go_wp2_with (first
          | ((refine at_op (.load 31 (.tmp 49)) rfl ?_); refine wpList_load_mid rfl 31 (.tmp 49) rfl b0 (o0 + k * 11) (by first | rfl | simp) [.int .i64 D, .int .i64 N, .int .i64 m.a, .int .i64 m.b, .int .i64 m.c, .int .i64 m.d, .int .i64 m.x, .int .i64 m.y, .slice av lv cv, .int .i64 px, .int .i64 py] _ HRG.out Tryd.underlying31 rfl (by exact infoAct) ?_)
          | (go_at_call 8; ((with_reducible refine (call_Xc g x D N m av lv cv zs px py k _ _ hA.out.gg hA.out.v (by omega) (tab_up HT.out hA.out.up) (HOK.out.up hA.out.up) h100 rfl).mono ?_); rintro E w3 ⟨rfl, y, h8, h9⟩; have HA3 := Lib.hid (hA.out.to h8 h9); clear h8 h9)))
        go_roundw
        case rel => exact ⟨k + 1, y, by omega, by omega, by go_num, HA3⟩
        case measure => simp [intOf]; omega
  case rest =>
    obtain ⟨k, x, hk, hA⟩ := hcut
    obtain ⟨wa, hwa⟩ : ∃ w', w' = wc := ⟨wc, rfl⟩
    subst hwa
    obtain ⟨nd, hnd⟩ : ∃ n, x.dat.saved.length = n := ⟨_, rfl⟩
    have HND := Lib.hid hnd
    have HZ := Lib.hid (save_zero hA.out.v (by omega) hA.out.most)
    have HGG := Lib.hid hA.out.gg
    have HLE := Lib.hid (show Le x.l.s.dat from hA.out.v.cur.le)
    clear hnd
    go_upto_block 2 with (first
      | (go_at_call 9; ((with_reducible refine (now_X g x _ HGG.out HLE.out).mono ?_); rintro E w3 ⟨sB, rfl, hsd, hso, hsn, hu3⟩; obtain ⟨C, hC⟩ : ∃ C, sB.cells.toArray = C := ⟨_, rfl⟩; rw [hC]; have HCC := Lib.hid hC; have HCS : C.size = 26 := (by rw [← hC]; rfl); have HCO : C.all (·.oneCell') = true := (by rw [← hC]; exact all_oneCell_toArray (S.one hso)); have HSD := Lib.hid hsd; have HSO := Lib.hid hso; have HSN := Lib.hid hsn; have HU3 := Lib.hid hu3; clear hC hsd hso hsn hu3))
      | ((refine at_op (.store 41 (.tmp 7) _) rfl ?_); (refine wpList_store_Row rfl 41 (.tmp 7) _ rfl w3.heap.size C rfl rfl #[.int .i64 0, .int .i64 0, .int .i64 0, .int .i64 0, .int .i64 0, .int .i64 0, .int .i64 0, .int .i64 0, .int .i64 0, .int .i64 0, .int .i64 0, .int .i64 0, .int .i64 0, .int .i64 0, .int .i64 0, .slice none 0 0, .int .i64 0, .int .i64 0, .int .i64 0, .int .i64 0, .int .i64 0, .int .i64 0, .int .i64 0, .int .i64 0, .slice none 0 0, .bool false] (by (repeat' (with_reducible first | assumption | (refine Row.at _ _ ?_; (simp; done)) | refine Row.alloc ?_ _ | refine Row.drew ?_ | refine Row.drewN ?_ _ | refine Row.other ?_ (by first | (simp; done) | (simp; omega) | omega) _ | refine Row.up ?_ (by assumption) | refine Row.chg ?_ (by assumption) (by first | (simp; done) | (simp; omega))))) Gs.infoSt HCS rfl HCO ?_); intro w4 hr4 hc4; have HR4 := Lib.hid hr4; have HU34 := Lib.hid (show Up w3 w4 from ((Chg.of_up (S := []) (Up.alloc (Up.refl w3) _)).call hc4 (fun b hb => Or.inr (by rw [List.mem_singleton] at hb; subst hb; exact Nat.le_refl _))).up); have HU4 := Lib.hid (HU3.out.call HU34.out); clear hr4 hc4)
      | (go_at_call 10; ((with_reducible refine (path_X g x _ (HGG.out.up HU4.out)).mono ?_); rintro E w90 ⟨rfl, rfl⟩))
      | (go_at_call 11; ((with_reducible refine (Path.segments_calls x.l.p x.l.pv x.l.t _ (HGG.out.cur.p.up HU4.out)).mono ?_); rintro E w5 ⟨v8, rfl, hs8, hu5, ho8⟩; have HS8 := Lib.hid hs8; have HO8 := Lib.hid ho8; have HU45 := Lib.hid hu5; have HU5 := Lib.hid (HU4.out.call hu5); clear hs8 hu5 ho8))
      | (go_at_call 12; ((with_reducible refine (depth_X g x nd HND.out _ (HGG.out.up HU5.out)).mono ?_); rintro E w91 ⟨rfl, rfl⟩))
      | (go_at_call 13; ((with_reducible refine (save_X g x _ (HGG.out.up HU5.out) (hA.out.v.inv (by omega))).mono ?_); rw [HZ.out]; rintro E w6 ⟨y, rfl, h8, h9⟩; have HB6 := Lib.hid (show Bt w5 w6 g x y 1 (41 + 0) from ⟨h8, (by rw [h9]; exact (saveM_V hA.out.v).to (by omega)), (by rw [h9]; exact Down.first HZ.out)⟩); clear h8 h9)))
    have HUW := Lib.hid (hA.out.up.call HU5.out)
    have HNW := Lib.hid hA.out.new
    go_cut [10, 11, 12, 13] from 62 to 110 (fun s10 s11 s12 s13 wx => ∃ (q : Nat) (y : X), s10 = .int .i64 q ∧ q ≤ 41 ∧ Hid (Bt w5 wx g x y q 81))
    case first =>
      go_wp2_with fail
      go_loopw [10, 11] (fun s10 s11 wr => ∃ (j q : Nat) (y : X), j ≤ 40 ∧ j ≤ n1 ∧ s10 = .int .i64 q ∧ s11 = .int .i64 j ∧ 1 ≤ q ∧ q ≤ j + 1 ∧ Hid (Bt w5 wr g x y q (41 + j))) (fun _ s11 _ => 40 - (intOf s11).toNat)
      case atStart => exact ⟨0, 1, y, by omega, by omega, rfl, rfl, by omega, by omega, HB6⟩
      case round =>
        obtain ⟨j, q, z, hj, hjn, rfl, rfl, hq1, hq2, hB⟩ := hrel
        by_cases h1 : j < n1
        rotate_left
        · have t1 : decide (j < n1) = false := decide_eq_false h1
          go_wp2
          go_meet
          case rel => exact ⟨q, z, rfl, by omega, Lib.hid ⟨hB.out.tt, hB.out.v.to (by omega), hB.out.dn⟩⟩
        by_cases h2 : j < 40
        rotate_left
        · go_wp2
          go_meet
          case rel => exact ⟨q, z, rfl, by omega, Lib.hid ⟨hB.out.tt, hB.out.v.to (by omega), hB.out.dn⟩⟩
        have HUR := Lib.hid (To.after HUW.out HNW.out hB.out.tt).1
        obtain ⟨b0, o0, rfl, hb0, hc0⟩ := HS1.out.2.2.2.2 (by omega)
        obtain ⟨v, hv⟩ : ∃ v, l1[j]? = some v := ⟨_, List.getElem?_eq_getElem (by have := HS1.out.2.2.1; omega)⟩
        have hok := HO1.out v (List.mem_of_getElem? hv)
        have hrg := act_cells hb0 hc0 HUR.out hv
        obtain ⟨D, N, m, av, lv, cv, zs, px, py⟩ := v
        have HOK := Lib.hid hok
        have q0 : wr.cell? ⟨b0, o0 + j * 11, none⟩ = some (.int .i64 D) := hrg 0 _ rfl
        have q8 : wr.cell? ⟨b0, o0 + j * 11 + 8, none⟩ = some (.slice av lv cv) := hrg 8 _ rfl
        have HRG : Hid (wr.rangeAt b0 (o0 + j * 11) [.int .i64 D, .int .i64 N, .int .i64 m.a, .int .i64 m.b, .int .i64 m.c, .int .i64 m.d, .int .i64 m.x, .int .i64 m.y, .slice av lv cv, .int .i64 px, .int .i64 py]) := Lib.hid hrg
        clear hok hrg hb0 hc0 hv
        by_cases h100 : lv ≤ 100
        rotate_left
        · have t1 : decide ((100 : Int) < (lv : Int)) = true := decide_eq_true (by omega)
          clear h100
          go_upto_region 19 with (first | ((refine at_op (.load 31 (.tmp 74)) rfl ?_); refine wpList_load_mid rfl 31 (.tmp 74) rfl b0 (o0 + j * 11) (by first | rfl | simp) [.int .i64 D, .int .i64 N, .int .i64 m.a, .int .i64 m.b, .int .i64 m.c, .int .i64 m.d, .int .i64 m.x, .int .i64 m.y, .slice av lv cv, .int .i64 px, .int .i64 py] _ HRG.out Tryd.underlying31 rfl (by exact infoAct) ?_) | ((refine at_op (.store 31 (.tmp 12) _) rfl ?_); (refine wpList_store_Row rfl 31 (.tmp 12) _ rfl wr.heap.size #[.int .i64 D, .int .i64 N, .int .i64 m.a, .int .i64 m.b, .int .i64 m.c, .int .i64 m.d, .int .i64 m.x, .int .i64 m.y, .slice av lv cv, .int .i64 px, .int .i64 py] rfl rfl #[.int .i64 0, .int .i64 0, .int .i64 0, .int .i64 0, .int .i64 0, .int .i64 0, .int .i64 0, .int .i64 0, .slice none 0 0, .int .i64 0, .int .i64 0] (by (repeat' (with_reducible first | assumption | (refine Row.at _ _ ?_; (simp; done)) | refine Row.alloc ?_ _ | refine Row.drew ?_ | refine Row.drewN ?_ _ | refine Row.other ?_ (by first | (simp; done) | (simp; omega) | omega) _ | refine Row.up ?_ (by assumption) | refine Row.chg ?_ (by assumption) (by first | (simp; done) | (simp; omega))))) infoAct rfl rfl (by simp [Value.oneCell']) ?_); intro w7 hr7 hc7; have r0 : w7.cell? ⟨wr.heap.size, 0, none⟩ = some (.int .i64 D) := hr7.cell 0 rfl; have r8 : w7.cell? ⟨wr.heap.size, 8, none⟩ = some (.slice av lv cv) := hr7.cell 8 rfl; have HR7 := Lib.hid hr7; have HU7 := Lib.hid (show Up wr w7 from ((Chg.of_up (S := []) (Up.alloc (Up.refl wr) _)).call hc7 (fun b hb => Or.inr (by rw [List.mem_singleton] at hb; subst hb; exact Nat.le_refl _))).up); clear hr7 hc7))
          go_wp2
          go_roundw
          case rel => exact ⟨j + 1, q, z, by omega, by omega, rfl, by go_num, hq1, by omega, Lib.hid (hB.out.skip HU7.out)⟩
          case measure => simp [intOf]; omega
        have t1 : decide ((100 : Int) < (lv : Int)) = false := decide_eq_false (by omega)
        by_cases h3 : D = 3
        · have t3 : (D == 3) = true := by simp [h3]
          clear h3
          go_upto_region 19 with (first | ((refine at_op (.load 31 (.tmp 74)) rfl ?_); refine wpList_load_mid rfl 31 (.tmp 74) rfl b0 (o0 + j * 11) (by first | rfl | simp) [.int .i64 D, .int .i64 N, .int .i64 m.a, .int .i64 m.b, .int .i64 m.c, .int .i64 m.d, .int .i64 m.x, .int .i64 m.y, .slice av lv cv, .int .i64 px, .int .i64 py] _ HRG.out Tryd.underlying31 rfl (by exact infoAct) ?_) | ((refine at_op (.store 31 (.tmp 12) _) rfl ?_); (refine wpList_store_Row rfl 31 (.tmp 12) _ rfl wr.heap.size #[.int .i64 D, .int .i64 N, .int .i64 m.a, .int .i64 m.b, .int .i64 m.c, .int .i64 m.d, .int .i64 m.x, .int .i64 m.y, .slice av lv cv, .int .i64 px, .int .i64 py] rfl rfl #[.int .i64 0, .int .i64 0, .int .i64 0, .int .i64 0, .int .i64 0, .int .i64 0, .int .i64 0, .int .i64 0, .slice none 0 0, .int .i64 0, .int .i64 0] (by (repeat' (with_reducible first | assumption | (refine Row.at _ _ ?_; (simp; done)) | refine Row.alloc ?_ _ | refine Row.drew ?_ | refine Row.drewN ?_ _ | refine Row.other ?_ (by first | (simp; done) | (simp; omega) | omega) _ | refine Row.up ?_ (by assumption) | refine Row.chg ?_ (by assumption) (by first | (simp; done) | (simp; omega))))) infoAct rfl rfl (by simp [Value.oneCell']) ?_); intro w7 hr7 hc7; have r0 : w7.cell? ⟨wr.heap.size, 0, none⟩ = some (.int .i64 D) := hr7.cell 0 rfl; have r8 : w7.cell? ⟨wr.heap.size, 8, none⟩ = some (.slice av lv cv) := hr7.cell 8 rfl; have HR7 := Lib.hid hr7; have HU7 := Lib.hid (show Up wr w7 from ((Chg.of_up (S := []) (Up.alloc (Up.refl wr) _)).call hc7 (fun b hb => Or.inr (by rw [List.mem_singleton] at hb; subst hb; exact Nat.le_refl _))).up); clear hr7 hc7))
          go_wp2
          go_roundw
          case rel => exact ⟨j + 1, q, z, by omega, by omega, rfl, by go_num, hq1, by omega, Lib.hid (hB.out.skip HU7.out)⟩
          case measure => simp [intOf]; omega
        have t3 : (D == 3) = false := by simp [h3]
        by_cases hd2 : D = 2
        · have t2 : (D == 2) = true := by simp [hd2]
          have t4 : (D == 1) = false := by simp [hd2]
          by_cases hq : q = 1
          · have t5 : ((q : Int) == 1) = true := by simp [hq]
            clear hq hd2 h3
            go_upto_region 19 with (first | ((refine at_op (.load 31 (.tmp 74)) rfl ?_); refine wpList_load_mid rfl 31 (.tmp 74) rfl b0 (o0 + j * 11) (by first | rfl | simp) [.int .i64 D, .int .i64 N, .int .i64 m.a, .int .i64 m.b, .int .i64 m.c, .int .i64 m.d, .int .i64 m.x, .int .i64 m.y, .slice av lv cv, .int .i64 px, .int .i64 py] _ HRG.out Tryd.underlying31 rfl (by exact infoAct) ?_) | ((refine at_op (.store 31 (.tmp 12) _) rfl ?_); (refine wpList_store_Row rfl 31 (.tmp 12) _ rfl wr.heap.size #[.int .i64 D, .int .i64 N, .int .i64 m.a, .int .i64 m.b, .int .i64 m.c, .int .i64 m.d, .int .i64 m.x, .int .i64 m.y, .slice av lv cv, .int .i64 px, .int .i64 py] rfl rfl #[.int .i64 0, .int .i64 0, .int .i64 0, .int .i64 0, .int .i64 0, .int .i64 0, .int .i64 0, .int .i64 0, .slice none 0 0, .int .i64 0, .int .i64 0] (by (repeat' (with_reducible first | assumption | (refine Row.at _ _ ?_; (simp; done)) | refine Row.alloc ?_ _ | refine Row.drew ?_ | refine Row.drewN ?_ _ | refine Row.other ?_ (by first | (simp; done) | (simp; omega) | omega) _ | refine Row.up ?_ (by assumption) | refine Row.chg ?_ (by assumption) (by first | (simp; done) | (simp; omega))))) infoAct rfl rfl (by simp [Value.oneCell']) ?_); intro w7 hr7 hc7; have r0 : w7.cell? ⟨wr.heap.size, 0, none⟩ = some (.int .i64 D) := hr7.cell 0 rfl; have r8 : w7.cell? ⟨wr.heap.size, 8, none⟩ = some (.slice av lv cv) := hr7.cell 8 rfl; have HR7 := Lib.hid hr7; have HU7 := Lib.hid (show Up wr w7 from ((Chg.of_up (S := []) (Up.alloc (Up.refl wr) _)).call hc7 (fun b hb => Or.inr (by rw [List.mem_singleton] at hb; subst hb; exact Nat.le_refl _))).up); clear hr7 hc7))
            go_wp2
            go_roundw
            case rel => exact ⟨j + 1, q, z, by omega, by omega, rfl, by go_num, hq1, by omega, Lib.hid (hB.out.skip HU7.out)⟩
            case measure => simp [intOf]; omega
          have t5 : ((q : Int) == 1) = false := by simp; omega
          have HQ1 := Lib.hid hq
          clear hq
          obtain ⟨p, hp⟩ : ∃ p, q = p + 1 := ⟨q - 1, by omega⟩
          have HP := Lib.hid hp
          have HD := Lib.hid hd2
          clear hp hd2 h3
          go_wp2_with (first
            | ((refine at_op (.load 31 (.tmp 74)) rfl ?_); refine wpList_load_mid rfl 31 (.tmp 74) rfl b0 (o0 + j * 11) (by first | rfl | simp) [.int .i64 D, .int .i64 N, .int .i64 m.a, .int .i64 m.b, .int .i64 m.c, .int .i64 m.d, .int .i64 m.x, .int .i64 m.y, .slice av lv cv, .int .i64 px, .int .i64 py] _ HRG.out Tryd.underlying31 rfl (by exact infoAct) ?_) | ((refine at_op (.store 31 (.tmp 12) _) rfl ?_); (refine wpList_store_Row rfl 31 (.tmp 12) _ rfl wr.heap.size #[.int .i64 D, .int .i64 N, .int .i64 m.a, .int .i64 m.b, .int .i64 m.c, .int .i64 m.d, .int .i64 m.x, .int .i64 m.y, .slice av lv cv, .int .i64 px, .int .i64 py] rfl rfl #[.int .i64 0, .int .i64 0, .int .i64 0, .int .i64 0, .int .i64 0, .int .i64 0, .int .i64 0, .int .i64 0, .slice none 0 0, .int .i64 0, .int .i64 0] (by (repeat' (with_reducible first | assumption | (refine Row.at _ _ ?_; (simp; done)) | refine Row.alloc ?_ _ | refine Row.drew ?_ | refine Row.drewN ?_ _ | refine Row.other ?_ (by first | (simp; done) | (simp; omega) | omega) _ | refine Row.up ?_ (by assumption) | refine Row.chg ?_ (by assumption) (by first | (simp; done) | (simp; omega))))) infoAct rfl rfl (by simp [Value.oneCell']) ?_); intro w7 hr7 hc7; have r0 : w7.cell? ⟨wr.heap.size, 0, none⟩ = some (.int .i64 D) := hr7.cell 0 rfl; have r8 : w7.cell? ⟨wr.heap.size, 8, none⟩ = some (.slice av lv cv) := hr7.cell 8 rfl; have HR7 := Lib.hid hr7; have HU7 := Lib.hid (show Up wr w7 from ((Chg.of_up (S := []) (Up.alloc (Up.refl wr) _)).call hc7 (fun b hb => Or.inr (by rw [List.mem_singleton] at hb; subst hb; exact Nat.le_refl _))).up); clear hr7 hc7)
            | ((refine at_op (.load 31 (.tmp 12)) rfl ?_); refine wpList_load_Row rfl 31 (.tmp 12) rfl wr.heap.size rfl #[.int .i64 D, .int .i64 N, .int .i64 m.a, .int .i64 m.b, .int .i64 m.c, .int .i64 m.d, .int .i64 m.x, .int .i64 m.y, .slice av lv cv, .int .i64 px, .int .i64 py] _ HR7.out Tryd.underlying31 rfl infoAct rfl ?_)
            | (go_at_call 8; ((with_reducible refine (call_Xc g z D N m av lv cv zs px py (41 + j) _ _ (hB.out.tt.g.up HU7.out) hB.out.v (by omega) (tab_up HT.out (HUR.out.call HU7.out)) (HOK.out.up (HUR.out.call HU7.out)) h100 rfl).mono ?_); rintro E w8 ⟨rfl, y8, h8, h9⟩; have HB8 := Lib.hid ((hB.out.up HU7.out).call (j := p) h8 h9 (by rw [callM_two HD.out]; have h := hB.out.dn; rw [HP.out] at h; exact h.rest)); have c0 : w8.cell? ⟨wr.heap.size, 0, none⟩ = some (.int .i64 D) := (HR7.out.chg h8.2.1 (fun hb => absurd (hB.out.tt.g.lt _ hb) (Nat.lt_irrefl _))).cell 0 rfl; clear h8 h9)))
          go_roundw
          case rel => exact ⟨j + 1, p, y8, by omega, by omega, by have := HP.out; go_num, by go_num, by have := HP.out; have := HQ1.out; omega, by have := HP.out; have := HQ1.out; omega, HB8⟩
          case measure => simp [intOf]; omega
        have t2 : (D == 2) = false := by simp [hd2]
        obtain ⟨e, he⟩ : ∃ e, (callM ⟨D, N, m, av, lv, cv, zs, px, py⟩ z.dat).2 = e := ⟨_, rfl⟩
        have HE := Lib.hid he
        clear he
        by_cases hd1 : D = 1
        · have t4 : (D == 1) = true := by simp [hd1]
          have HD := Lib.hid hd1
          clear hd1 h3 hd2
          by_cases h0 : e = 0
          · have t5 : (e == 0) = true := by simp [h0]
            have HE0 := Lib.hid h0
            clear h0
            go_wp2_with (first
              | ((refine at_op (.load 31 (.tmp 74)) rfl ?_); refine wpList_load_mid rfl 31 (.tmp 74) rfl b0 (o0 + j * 11) (by first | rfl | simp) [.int .i64 D, .int .i64 N, .int .i64 m.a, .int .i64 m.b, .int .i64 m.c, .int .i64 m.d, .int .i64 m.x, .int .i64 m.y, .slice av lv cv, .int .i64 px, .int .i64 py] _ HRG.out Tryd.underlying31 rfl (by exact infoAct) ?_) | ((refine at_op (.store 31 (.tmp 12) _) rfl ?_); (refine wpList_store_Row rfl 31 (.tmp 12) _ rfl wr.heap.size #[.int .i64 D, .int .i64 N, .int .i64 m.a, .int .i64 m.b, .int .i64 m.c, .int .i64 m.d, .int .i64 m.x, .int .i64 m.y, .slice av lv cv, .int .i64 px, .int .i64 py] rfl rfl #[.int .i64 0, .int .i64 0, .int .i64 0, .int .i64 0, .int .i64 0, .int .i64 0, .int .i64 0, .int .i64 0, .slice none 0 0, .int .i64 0, .int .i64 0] (by (repeat' (with_reducible first | assumption | (refine Row.at _ _ ?_; (simp; done)) | refine Row.alloc ?_ _ | refine Row.drew ?_ | refine Row.drewN ?_ _ | refine Row.other ?_ (by first | (simp; done) | (simp; omega) | omega) _ | refine Row.up ?_ (by assumption) | refine Row.chg ?_ (by assumption) (by first | (simp; done) | (simp; omega))))) infoAct rfl rfl (by simp [Value.oneCell']) ?_); intro w7 hr7 hc7; have r0 : w7.cell? ⟨wr.heap.size, 0, none⟩ = some (.int .i64 D) := hr7.cell 0 rfl; have r8 : w7.cell? ⟨wr.heap.size, 8, none⟩ = some (.slice av lv cv) := hr7.cell 8 rfl; have HR7 := Lib.hid hr7; have HU7 := Lib.hid (show Up wr w7 from ((Chg.of_up (S := []) (Up.alloc (Up.refl wr) _)).call hc7 (fun b hb => Or.inr (by rw [List.mem_singleton] at hb; subst hb; exact Nat.le_refl _))).up); clear hr7 hc7)
              | ((refine at_op (.load 31 (.tmp 12)) rfl ?_); refine wpList_load_Row rfl 31 (.tmp 12) rfl wr.heap.size rfl #[.int .i64 D, .int .i64 N, .int .i64 m.a, .int .i64 m.b, .int .i64 m.c, .int .i64 m.d, .int .i64 m.x, .int .i64 m.y, .slice av lv cv, .int .i64 px, .int .i64 py] _ HR7.out Tryd.underlying31 rfl infoAct rfl ?_)
              | (go_at_call 8; ((with_reducible refine (call_Xc g z D N m av lv cv zs px py (41 + j) _ _ (hB.out.tt.g.up HU7.out) hB.out.v (by omega) (tab_up HT.out (HUR.out.call HU7.out)) (HOK.out.up (HUR.out.call HU7.out)) h100 HE.out).mono ?_); rintro E w8 ⟨rfl, y8, h8, h9⟩; have HB8 := Lib.hid ((hB.out.up HU7.out).call (j := (q + 1)) h8 h9 (by have h := HE.out; rw [callM_one HD.out] at h ⊢; exact hB.out.dn.save hq1 (h.trans HE0.out))); have c0 : w8.cell? ⟨wr.heap.size, 0, none⟩ = some (.int .i64 D) := (HR7.out.chg h8.2.1 (fun hb => absurd (hB.out.tt.g.lt _ hb) (Nat.lt_irrefl _))).cell 0 rfl; clear h8 h9)))
            go_roundw
            case rel => exact ⟨j + 1, (q + 1), y8, by omega, by omega, by go_num, by go_num, by omega, by omega, HB8⟩
            case measure => simp [intOf]; omega
          have t5 : (e == 0) = false := by simp [h0]
          have HE0 := Lib.hid h0
          clear h0
          go_wp2_with (first
            | ((refine at_op (.load 31 (.tmp 74)) rfl ?_); refine wpList_load_mid rfl 31 (.tmp 74) rfl b0 (o0 + j * 11) (by first | rfl | simp) [.int .i64 D, .int .i64 N, .int .i64 m.a, .int .i64 m.b, .int .i64 m.c, .int .i64 m.d, .int .i64 m.x, .int .i64 m.y, .slice av lv cv, .int .i64 px, .int .i64 py] _ HRG.out Tryd.underlying31 rfl (by exact infoAct) ?_) | ((refine at_op (.store 31 (.tmp 12) _) rfl ?_); (refine wpList_store_Row rfl 31 (.tmp 12) _ rfl wr.heap.size #[.int .i64 D, .int .i64 N, .int .i64 m.a, .int .i64 m.b, .int .i64 m.c, .int .i64 m.d, .int .i64 m.x, .int .i64 m.y, .slice av lv cv, .int .i64 px, .int .i64 py] rfl rfl #[.int .i64 0, .int .i64 0, .int .i64 0, .int .i64 0, .int .i64 0, .int .i64 0, .int .i64 0, .int .i64 0, .slice none 0 0, .int .i64 0, .int .i64 0] (by (repeat' (with_reducible first | assumption | (refine Row.at _ _ ?_; (simp; done)) | refine Row.alloc ?_ _ | refine Row.drew ?_ | refine Row.drewN ?_ _ | refine Row.other ?_ (by first | (simp; done) | (simp; omega) | omega) _ | refine Row.up ?_ (by assumption) | refine Row.chg ?_ (by assumption) (by first | (simp; done) | (simp; omega))))) infoAct rfl rfl (by simp [Value.oneCell']) ?_); intro w7 hr7 hc7; have r0 : w7.cell? ⟨wr.heap.size, 0, none⟩ = some (.int .i64 D) := hr7.cell 0 rfl; have r8 : w7.cell? ⟨wr.heap.size, 8, none⟩ = some (.slice av lv cv) := hr7.cell 8 rfl; have HR7 := Lib.hid hr7; have HU7 := Lib.hid (show Up wr w7 from ((Chg.of_up (S := []) (Up.alloc (Up.refl wr) _)).call hc7 (fun b hb => Or.inr (by rw [List.mem_singleton] at hb; subst hb; exact Nat.le_refl _))).up); clear hr7 hc7)
            | ((refine at_op (.load 31 (.tmp 12)) rfl ?_); refine wpList_load_Row rfl 31 (.tmp 12) rfl wr.heap.size rfl #[.int .i64 D, .int .i64 N, .int .i64 m.a, .int .i64 m.b, .int .i64 m.c, .int .i64 m.d, .int .i64 m.x, .int .i64 m.y, .slice av lv cv, .int .i64 px, .int .i64 py] _ HR7.out Tryd.underlying31 rfl infoAct rfl ?_)
            | (go_at_call 8; ((with_reducible refine (call_Xc g z D N m av lv cv zs px py (41 + j) _ _ (hB.out.tt.g.up HU7.out) hB.out.v (by omega) (tab_up HT.out (HUR.out.call HU7.out)) (HOK.out.up (HUR.out.call HU7.out)) h100 HE.out).mono ?_); rintro E w8 ⟨rfl, y8, h8, h9⟩; have HB8 := Lib.hid ((hB.out.up HU7.out).call (j := q) h8 h9 (by have h := HE.out; rw [callM_one HD.out] at h ⊢; exact hB.out.dn.stay (fun h9 => HE0.out (h.symm.trans h9)))); have c0 : w8.cell? ⟨wr.heap.size, 0, none⟩ = some (.int .i64 D) := (HR7.out.chg h8.2.1 (fun hb => absurd (hB.out.tt.g.lt _ hb) (Nat.lt_irrefl _))).cell 0 rfl; clear h8 h9)))
          go_roundw
          case rel => exact ⟨j + 1, q, y8, by omega, by omega, rfl, by go_num, by omega, by omega, HB8⟩
          case measure => simp [intOf]; omega
        have t4 : (D == 1) = false := by simp [hd1]
        have HD1 := Lib.hid hd1
        have HD2 := Lib.hid hd2
        have HD3 := Lib.hid h3
        clear hd1 hd2 h3
        go_wp2_with (first
          | ((refine at_op (.load 31 (.tmp 74)) rfl ?_); refine wpList_load_mid rfl 31 (.tmp 74) rfl b0 (o0 + j * 11) (by first | rfl | simp) [.int .i64 D, .int .i64 N, .int .i64 m.a, .int .i64 m.b, .int .i64 m.c, .int .i64 m.d, .int .i64 m.x, .int .i64 m.y, .slice av lv cv, .int .i64 px, .int .i64 py] _ HRG.out Tryd.underlying31 rfl (by exact infoAct) ?_) | ((refine at_op (.store 31 (.tmp 12) _) rfl ?_); (refine wpList_store_Row rfl 31 (.tmp 12) _ rfl wr.heap.size #[.int .i64 D, .int .i64 N, .int .i64 m.a, .int .i64 m.b, .int .i64 m.c, .int .i64 m.d, .int .i64 m.x, .int .i64 m.y, .slice av lv cv, .int .i64 px, .int .i64 py] rfl rfl #[.int .i64 0, .int .i64 0, .int .i64 0, .int .i64 0, .int .i64 0, .int .i64 0, .int .i64 0, .int .i64 0, .slice none 0 0, .int .i64 0, .int .i64 0] (by (repeat' (with_reducible first | assumption | (refine Row.at _ _ ?_; (simp; done)) | refine Row.alloc ?_ _ | refine Row.drew ?_ | refine Row.drewN ?_ _ | refine Row.other ?_ (by first | (simp; done) | (simp; omega) | omega) _ | refine Row.up ?_ (by assumption) | refine Row.chg ?_ (by assumption) (by first | (simp; done) | (simp; omega))))) infoAct rfl rfl (by simp [Value.oneCell']) ?_); intro w7 hr7 hc7; have r0 : w7.cell? ⟨wr.heap.size, 0, none⟩ = some (.int .i64 D) := hr7.cell 0 rfl; have r8 : w7.cell? ⟨wr.heap.size, 8, none⟩ = some (.slice av lv cv) := hr7.cell 8 rfl; have HR7 := Lib.hid hr7; have HU7 := Lib.hid (show Up wr w7 from ((Chg.of_up (S := []) (Up.alloc (Up.refl wr) _)).call hc7 (fun b hb => Or.inr (by rw [List.mem_singleton] at hb; subst hb; exact Nat.le_refl _))).up); clear hr7 hc7)
          | ((refine at_op (.load 31 (.tmp 12)) rfl ?_); refine wpList_load_Row rfl 31 (.tmp 12) rfl wr.heap.size rfl #[.int .i64 D, .int .i64 N, .int .i64 m.a, .int .i64 m.b, .int .i64 m.c, .int .i64 m.d, .int .i64 m.x, .int .i64 m.y, .slice av lv cv, .int .i64 px, .int .i64 py] _ HR7.out Tryd.underlying31 rfl infoAct rfl ?_)
          | (go_at_call 8; ((with_reducible refine (call_Xc g z D N m av lv cv zs px py (41 + j) _ _ (hB.out.tt.g.up HU7.out) hB.out.v (by omega) (tab_up HT.out (HUR.out.call HU7.out)) (HOK.out.up (HUR.out.call HU7.out)) h100 HE.out).mono ?_); rintro E w8 ⟨rfl, y8, h8, h9⟩; have HB8 := Lib.hid ((hB.out.up HU7.out).call (j := q) h8 h9 (by exact hB.out.dn.other hq1 _ HD1.out HD2.out HD3.out)); have c0 : w8.cell? ⟨wr.heap.size, 0, none⟩ = some (.int .i64 D) := (HR7.out.chg h8.2.1 (fun hb => absurd (hB.out.tt.g.lt _ hb) (Nat.lt_irrefl _))).cell 0 rfl; clear h8 h9)))
        go_roundw
        case rel => exact ⟨j + 1, q, y8, by omega, by omega, rfl, by go_num, by omega, by omega, HB8⟩
        case measure => simp [intOf]; omega
    case rest =>
      obtain ⟨q0, y0, rfl, hq0, hB0⟩ := hcut
      go_wp2_with fail
      go_loopw [10] (fun s10 wr => ∃ (q : Nat) (z : X), s10 = .int .i64 q ∧ q ≤ 41 ∧ Hid (Bt w5 wr g x z q 81)) (fun s10 _ => (intOf s10).toNat)
      case atStart => exact ⟨q0, y0, rfl, hq0, hB0⟩
      case round =>
        obtain ⟨q, z, rfl, hq, hB⟩ := hrel
        by_cases h0 : 0 < q
        · obtain ⟨p, hp⟩ : ∃ p, q = p + 1 := ⟨q - 1, by omega⟩
          have HP := Lib.hid hp
          clear hp
          go_wp2_with (go_at_call 14; ((with_reducible refine (restore_X g z _ hB.out.tt.g (hB.out.v.inv (by omega))).mono ?_); rintro E w8 ⟨y8, rfl, h8, h9⟩; have HB8 := Lib.hid (Bt.rest (q := p) (by rw [← HP.out]; exact hB.out) h8 h9); clear h8 h9))
          go_roundw
          case rel => exact ⟨p, y8, by have := HP.out; go_num, by have := HP.out; omega, HB8⟩
          case measure => have := HP.out; simp [intOf]; omega
        · obtain rfl : q = 0 := by omega
          have HDS := Lib.hid (show z.l.s.dat = x.l.s.dat from hB.out.dn.1)
          have HDT := Lib.hid (show z.l.t = x.l.t from hB.out.dn.2.1)
          have HDN := Lib.hid (show z.dat.saved.length = nd from by rw [hB.out.dn.2.2]; exact HND.out)
          have HLT := Lib.hid HGG.out.lt
          have HR9 := Lib.hid (show Row wr w3.heap.size C from (HR4.out.up HU45.out).chg hB.out.tt.2.1 (fun hb => absurd (HLT.out _ hb) (by have := HU3.out.size; omega)))
          have HSO9 := Lib.hid (show SO wr sB from ((HSO.out.up HU34.out).up HU45.out).chg hB.out.tt.2.1 (fun b hb h1 => absurd (HLT.out _ h1) (by have := (HSN.out b hb).1; omega)))
          have HS9 := Lib.hid (show Segs wr v8 x.l.t.l from HS8.out.chg hB.out.tt.2.1 (fun b hb h1 => absurd (HLT.out _ h1) (by have := HO8.out b hb; have := HU4.out.size; omega)))
          have HGZ := Lib.hid hB.out.tt.g
          have HUZ := Lib.hid (To.after HUW.out HNW.out hB.out.tt).1
          have HLZ := Lib.hid (show Le z.l.s.dat from hB.out.v.cur.le)
          clear hB h0
          go_wp2
          have HUD : Hid (Up wr wr.drew) := Lib.hid (Up.drew (Up.refl wr))
          refine wp_region_held_drew (S := fun w' => Row w' w3.heap.size C) (by kernel_rfl) ?_ (fun hHeld => ?_)
          · exact (by first | exact HR9.out | exact Row.drew HR9.out)
          refine wpAnyH_take (i := 0) (v := ?_) rfl (by decide +kernel) (by decide +kernel) (by decide +kernel) (fun _ _ _ h => h) (Or.inl ⟨by rfl, ?_⟩) (by assumption) ?_
          rotate_left
          · intro w2 hSw
            (try dsimp only at hSw)
            (try (obtain ⟨hs1, hs2⟩ := hSw))
            go_simp
            (try (with_reducible rfl))
          (try simp only [Act.put, lga, lgz, lgs, lsa, lsz, lss])
          refine wpAnyH_take (i := 2) (v := ?_) rfl (by decide +kernel) (by decide +kernel) (by decide +kernel) (fun _ _ _ h => h) (Or.inl ⟨by rfl, ?_⟩) (by assumption) ?_
          rotate_left
          · intro w2 hSw
            (try dsimp only at hSw)
            (try (obtain ⟨hs1, hs2⟩ := hSw))
            go_simp
            (try (with_reducible rfl))
          (try simp only [Act.put, lga, lgz, lgs, lsa, lsz, lss])
          refine wpAnyH_ready (rs := [1]) (by decide +kernel) (by simp) ?_
          refine AllReadyH.cons rfl (fun K hK => ?_) (AllReadyH.nil)
          (try simp only [lga, lgz, lgs])
          (go_simp; go_at_call 12; ((with_reducible refine (depth_X g z nd HDN.out _ (HGZ.out.up HUD.out)).mono ?_); rintro E w91 ⟨rfl, rfl⟩); (try dsimp only))
          refine hK.out _ _ ?_ (fun hHeld => ?_)
          · exact hHeld
          clear hK K
          (try simp only [Act.put, lga, lgz, lgs, lsa, lsz, lss])
          refine wpAnyH_take (i := 3) (v := ?_) rfl (by decide +kernel) (by decide +kernel) (by decide +kernel) (fun _ _ _ h => h) (Or.inl ⟨by rfl, ?_⟩) (by assumption) ?_
          rotate_left
          · intro w2 hSw
            (try dsimp only at hSw)
            (try (obtain ⟨hs1, hs2⟩ := hSw))
            go_simp
            (try (with_reducible rfl))
          (try simp only [Act.put, lga, lgz, lgs, lsa, lsz, lss])
          refine wpAnyH_take (i := 4) (v := ?_) rfl (by decide +kernel) (by decide +kernel) (by decide +kernel) (fun _ _ _ h => h) (Or.inl ⟨by rfl, ?_⟩) (by assumption) ?_
          rotate_left
          · intro w2 hSw
            (try dsimp only at hSw)
            (try (obtain ⟨hs1, hs2⟩ := hSw))
            go_simp
            (try (with_reducible rfl))
          (try simp only [Act.put, lga, lgz, lgs, lsa, lsz, lss])
          refine wpAnyH_take (i := 5) (v := ?_) rfl (by decide +kernel) (by decide +kernel) (by decide +kernel) (fun _ _ _ h => h) (Or.inl ⟨by rfl, ?_⟩) (by assumption) ?_
          rotate_left
          · intro w2 hSw
            (try dsimp only at hSw)
            (try (obtain ⟨hs1, hs2⟩ := hSw))
            go_simp
            (try (with_reducible rfl))
          (try simp only [Act.put, lga, lgz, lgs, lsa, lsz, lss])
          refine wpAnyH_take (i := 7) rfl (by decide +kernel) (by decide +kernel) (by decide +kernel) (fun _ _ _ h => h) (yieldsIf_load_mid (by rfl) 41 (.tmp 7) rfl w3.heap.size 0 rfl C.toList _ (fun _ h => Pt.rng0 h) Tryd.underlying41 rfl (by rw [Array.length_toList, HCS]; exact Gs.infoSt)) (by assumption) ?_
          (try simp only [Act.put, lga, lgz, lgs, lsa, lsz, lss])
          (try simp only [Array.toArray_toList])
          refine wpAnyH_ready (rs := [6]) (by decide +kernel) (by simp) ?_
          refine AllReadyH.cons rfl (fun K hK => ?_) (AllReadyH.nil)
          (try simp only [lga, lgz, lgs])
          (go_simp; go_at_call 9; ((with_reducible refine (now_X g z _ (HGZ.out.up HUD.out) HLZ.out).mono ?_); rintro E w10 ⟨sE, rfl, hsd, hso, hsn, hu10⟩; obtain ⟨KE, hKE⟩ : ∃ C, sE.cells.toArray = C := ⟨_, rfl⟩; rw [hKE]; have HKK := Lib.hid hKE; have HSE := Lib.hid hsd; have HOE := Lib.hid hso; have HU10d := Lib.hid hu10; have HU10 := Lib.hid (HUD.out.call hu10); clear hKE hsd hso hsn hu10); (try dsimp only))
          refine hK.out _ _ ?_ (fun hHeld => ?_)
          · exact Row.up hHeld HU10d.out
          clear hK K
          (try simp only [Act.put, lga, lgz, lgs, lsa, lsz, lss])
          refine wpAnyH_ready (rs := [8]) (by decide +kernel) (by simp) ?_
          refine AllReadyH.cons rfl (fun K hK => ?_) (AllReadyH.nil)
          (try simp only [lga, lgz, lgs])
          (go_simp; go_at_call 15; ((with_reducible rw [← HKK.out, ← HCC.out]); (with_reducible refine (alike_S sE sB _ HOE.out (HSO9.out.up HU10.out) (HSE.out.trans (HDS.out.trans HSD.out.symm)) (by have h2 := HLZ.out.d; rw [← HSE.out] at h2; exact Nat.le_trans h2 (by decide))).mono ?_); rintro E w11 ⟨rfl, hu11⟩; have HU11d := Lib.hid hu11; have HU11 := Lib.hid (HU10.out.call hu11); clear hu11); (try dsimp only))
          refine hK.out _ _ ?_ (fun hHeld => ?_)
          · exact Row.up hHeld HU11d.out
          clear hK K
          (try simp only [Act.put, lga, lgz, lgs, lsa, lsz, lss])
          refine wpAnyH_take (i := 9) (v := ?_) rfl (by decide +kernel) (by decide +kernel) (by decide +kernel) (fun _ _ _ h => h) (Or.inl ⟨by rfl, ?_⟩) (by assumption) ?_
          rotate_left
          · intro w2 hSw
            (try dsimp only at hSw)
            (try (obtain ⟨hs1, hs2⟩ := hSw))
            go_simp
            (try (with_reducible rfl))
          (try simp only [Act.put, lga, lgz, lgs, lsa, lsz, lss])
          refine wpAnyH_take (i := 10) (v := ?_) rfl (by decide +kernel) (by decide +kernel) (by decide +kernel) (fun _ _ _ h => h) (Or.inl ⟨by rfl, ?_⟩) (by assumption) ?_
          rotate_left
          · intro w2 hSw
            (try dsimp only at hSw)
            (try (obtain ⟨hs1, hs2⟩ := hSw))
            go_simp
            (try (with_reducible rfl))
          (try simp only [Act.put, lga, lgz, lgs, lsa, lsz, lss])
          refine wpAnyH_take (i := 11) (v := ?_) rfl (by decide +kernel) (by decide +kernel) (by decide +kernel) (fun _ _ _ h => h) (Or.inl ⟨by rfl, ?_⟩) (by assumption) ?_
          rotate_left
          · intro w2 hSw
            (try dsimp only at hSw)
            (try (obtain ⟨hs1, hs2⟩ := hSw))
            go_simp
            (try (with_reducible rfl))
          (try simp only [Act.put, lga, lgz, lgs, lsa, lsz, lss])
          refine wpAnyH_take (i := 14) (v := ?_) rfl (by decide +kernel) (by decide +kernel) (by decide +kernel) (fun _ _ _ h => h) (Or.inl ⟨by rfl, ?_⟩) (by assumption) ?_
          rotate_left
          · intro w2 hSw
            (try dsimp only at hSw)
            (try (obtain ⟨hs1, hs2⟩ := hSw))
            go_simp
            (try (with_reducible rfl))
          (try simp only [Act.put, lga, lgz, lgs, lsa, lsz, lss])
          refine wpAnyH_ready (rs := [12]) (by decide +kernel) (by simp) ?_
          refine AllReadyH.cons rfl (fun K hK => ?_) (AllReadyH.nil)
          (try simp only [lga, lgz, lgs])
          (go_simp; go_at_call 10; ((with_reducible refine (path_X g z _ (HGZ.out.up HU11.out)).mono ?_); rintro E w90 ⟨rfl, rfl⟩); (try dsimp only))
          refine hK.out _ _ ?_ (fun hHeld => ?_)
          · exact hHeld
          clear hK K
          (try simp only [Act.put, lga, lgz, lgs, lsa, lsz, lss])
          refine wpAnyH_ready (rs := [13]) (by decide +kernel) (by simp) ?_
          refine AllReadyH.cons rfl (fun K hK => ?_) (AllReadyH.nil)
          (try simp only [lga, lgz, lgs])
          (go_simp; go_at_call 11; ((with_reducible refine (Path.segments_calls z.l.p z.l.pv z.l.t _ (HGZ.out.cur.p.up HU11.out)).mono ?_); rintro E w12 ⟨v9, rfl, hs9, hu12, ho9⟩; have HSS := Lib.hid hs9; have HU12d := Lib.hid hu12; have HU12 := Lib.hid (HU11.out.call hu12); clear hs9 hu12 ho9); (try dsimp only))
          refine hK.out _ _ ?_ (fun hHeld => ?_)
          · exact Row.up hHeld HU12d.out
          clear hK K
          (try simp only [Act.put, lga, lgz, lgs, lsa, lsz, lss])
          refine wpAnyH_ready (rs := [15]) (by decide +kernel) (by simp) ?_
          refine AllReadyH.cons rfl (fun K hK => ?_) (AllReadyH.nil)
          (try simp only [lga, lgz, lgs])
          (go_simp; go_at_call 16; ((with_reducible refine (Path.same_calls v9 v8 z.l.t.l x.l.t.l _ HSS.out.v ((HS9.out.chg (S := []) (Chg.of_up HU12.out) (by simp)).v)).mono ?_); rw [decide_eq_true (by rw [HDT.out] : z.l.t.l = x.l.t.l)]; rintro E w13 ⟨rfl, hu13⟩; have HU13d := Lib.hid hu13; have HU13 := Lib.hid (HU12.out.call hu13); clear hu13); (try dsimp only))
          refine hK.out _ _ ?_ (fun hHeld => ?_)
          · exact Row.up hHeld HU13d.out
          clear hK K
          (try simp only [Act.put, lga, lgz, lgs, lsa, lsz, lss])
          refine wpAnyH_take (i := 16) (v := ?_) rfl (by decide +kernel) (by decide +kernel) (by decide +kernel) (fun _ _ _ h => h) (Or.inl ⟨by rfl, ?_⟩) (by assumption) ?_
          rotate_left
          · intro w2 hSw
            (try dsimp only at hSw)
            (try (obtain ⟨hs1, hs2⟩ := hSw))
            go_simp
            (try (with_reducible rfl))
          (try simp only [Act.put, lga, lgz, lgs, lsa, lsz, lss])
          refine wpAnyH_take (i := 17) (v := ?_) rfl (by decide +kernel) (by decide +kernel) (by decide +kernel) (fun _ _ _ h => h) (Or.inl ⟨by rfl, ?_⟩) (by assumption) ?_
          rotate_left
          · intro w2 hSw
            (try dsimp only at hSw)
            (try (obtain ⟨hs1, hs2⟩ := hSw))
            go_simp
            (try (with_reducible rfl))
          (try simp only [Act.put, lga, lgz, lgs, lsa, lsz, lss])
          refine wpAnyH_done (by decide +kernel) ?_ _
          go_wp2
          go_ret
          exact ⟨rfl, HUZ.out.call HU13.out⟩

end Go.Proofs.YtoflafbhfoncmaaDoor.Gt
end

section
namespace Go.Proofs.YtoflafbhfoncmaaDoor.Gt
open List renaming getElem_toArray → lga, getElem_cons_zero → lgz, getElem_cons_succ → lgs, setIfInBounds_toArray → lsa, set_cons_zero → lsz, set_cons_succ → lss
open Go.ChangeShapes Go.WideShapes Go.ChangeAt Go.RowKit
open Go.Proofs.YtoflafbhfoncmaaDoor.FixM (fits)
open Go.Proofs.YtoflafbhfoncmaaDoor.MatM (M6)
open Go.Proofs.YtoflafbhfoncmaaDoor.PathM (Seg St Z segCells)
open Go.Proofs.YtoflafbhfoncmaaDoor.Path (own own_mem own_of PathIs Segs)
open Go.Proofs.YtoflafbhfoncmaaDoor.Pt (Clip clipCells Src)
set_option linter.unusedVariables false
set_option linter.unusedSimpArgs false

open Go.Proofs.YtoflafbhfoncmaaDoor.Pt (raw_up info_parts3)
/-- what Copy has made so far -/
structure Cp (w wr : World) (g : Nat) (x y : X) (k : Nat) : Prop where
  up : Up w wr
  gg : G wr g y
  new : ∀ b ∈ y.bl g, w.heap.size ≤ b
  dat : y.dat = { x.dat with saved := x.dat.saved.take k }
  n : y.saved.length = k
theorem Cp.first {w w1 w2 : World} {B : Nat} {x : X} {l : Lv} (hB : w1.heap.size = B) (hu : Up w w1) (hu2 : Up w1 w2) (hd : l.s.dat = x.l.s.dat) (ht : l.t = x.l.t) (ho : LO w1 l) (hf : ∀ b ∈ l.bl, w.heap.size ≤ b ∧ b < w1.heap.size) (hr : Row w2 B (⟨l, x.most, x.segs, .slice none 0 0, []⟩ : X).cells.toArray) : Cp w w2 B x ⟨l, x.most, x.segs, .slice none 0 0, []⟩ 0 := by
  subst hB
  have hbl : (⟨l, x.most, x.segs, .slice none 0 0, []⟩ : X).bl w1.heap.size = w1.heap.size :: l.bl := by
    show w1.heap.size :: (l.bl ++ []) = _
    rw [List.append_nil]
  refine ⟨hu.call hu2, ⟨hr, ho.up hu2, World.ownsRow_nil _ _ _ _, (fun l hl => by cases hl), ?_⟩, ?_, ?_, rfl⟩
  · rw [hbl]
    exact List.nodup_cons.2 ⟨fun h => by have := (hf _ h).2; omega, ho.nd⟩
  · rw [hbl]
    intro b hb
    rcases List.mem_cons.1 hb with h | h
    · subst h; exact hu.size
    · exact (hf b h).1
  · simp [X.dat, hd, ht]
theorem Cp.next {w wr w2 : World} {B k g5 c5 : Nat} {x y : X} {l lv : Lv} (h : Cp w wr B x y k) (hk : x.saved[k]? = some lv) (hd : l.s.dat = lv.s.dat) (ht : l.t = lv.t) (hto : To wr w2 B y (kept y l g5 k c5)) : Cp w w2 B x (kept y l g5 k c5) (k + 1) := by
  refine ⟨((Chg.of_up (S := []) h.up).call hto.2.1 (fun b hb => Or.inr (h.new b hb))).up, hto.1, fun b hb => (hto.2.2 b hb).elim (h.new b) (fun h1 => Nat.le_trans h.up.size h1), ?_, by simp [kept, h.n]⟩
  have h1 := h.dat
  simp only [X.dat, kept] at h1 ⊢
  injection h1 with a1 a2 a3 a4 a5
  rw [a1, a2, a3, a4, List.map_append, a5, List.take_add_one, List.getElem?_map, hk]
  simp [hd, ht]
theorem rng_cp {w : World} {gs n cap k : Nat} {l : List Lv} {lv : Lv} (h : w.ownsRow 0 67 27 (.slice (some ⟨gs, 0, none⟩) n cap) n (l.flatMap Lv.cells)) (hn : l.length = n) (hk : l[k]? = some lv) : w.rangeAt gs (k * 27) lv.cells := fun j v hj => by
  have hl : j < 27 := (List.getElem?_eq_some_iff.1 hj).1
  have hk1 := (List.getElem?_eq_some_iff.1 hk).1
  rw [h.cellAt (k * 27 + j) (by omega)]
  exact Pt.flat_at Lv.cells_len l k lv j v hk hj
theorem infoSts : (Tryd.prog.info? 70).map (·.size) = some 30 := by kernel_rfl
set_option maxRecDepth 8000 in
set_option maxHeartbeats 8000000 in
theorem copy_X (g : Nat) (x : X) (w : World) (h : G w g x) (hi : Inv x.dat) : Calls Tryd.prog 17 #[.pointer (some ⟨g, 0, none⟩)] w fun E w' => ∃ B y, E = .returned (.pointer (some ⟨B, 0, none⟩)) ∧ Cp w w' B x y x.saved.length := by
  obtain ⟨i0, hi0, hz0, hz1, hz2⟩ := info_parts3 infoLv3
  have hi := hi0
  obtain ⟨so, sc, hsv⟩ := sv_form h
  obtain ⟨n, hn⟩ : ∃ n, x.saved.length = n := ⟨_, rfl⟩
  rw [hn] at hsv ⊢
  have HI := Lib.hid ‹Inv x.dat›
  have HL : Hid (Le x.l.s.dat) := Lib.hid HI.out.le
  have hn2 : n ≤ 1000 := by have := HI.out.n; simp only [X.dat, List.length_map] at this; omega
  have HG := Lib.hid h
  have lt := h.row.lt
  have q29 : w.cell? ⟨g, 29, none⟩ = some (.slice so n sc) := by rw [← hsv]; exact h.row.cell 29 rfl
  have HN := Lib.hid hn
  have HSV := Lib.hid hsv
  obtain ⟨C, hC⟩ : ∃ C, x.l.cells = C := ⟨_, rfl⟩
  have HC := Lib.hid hC
  have HR : Hid (Row w g (C ++ [Value.int .i64 x.most, Value.int .i64 x.segs, x.sv]).toArray) := Lib.hid (by rw [← hC]; exact h.rowL)
  have QA : Hid ((C ++ [Value.int .i64 x.most, Value.int .i64 x.segs, x.sv]).toArray[27]? = some (.int .i64 x.most)) := Lib.hid (by rw [← hC]; rfl)
  have QB : Hid ((C ++ [Value.int .i64 x.most, Value.int .i64 x.segs, x.sv]).toArray[28]? = some (.int .i64 x.segs)) := Lib.hid (by rw [← hC]; rfl)
  clear h hsv hn hC
  go_enter Tryd.func17, Tryd.ntmps17
  go_wp2
  refine wp_region_held_drew (S := fun w' => w'.rangeAt g 0 C ∧ w'.cell? ⟨g, 27, none⟩ = some (.int .i64 x.most) ∧ w'.cell? ⟨g, 28, none⟩ = some (.int .i64 x.segs)) (by kernel_rfl) ?_ (fun hHeld => ?_)
  · have h9 : Row w.drew g (C ++ [Value.int .i64 x.most, Value.int .i64 x.segs, x.sv]).toArray := Row.drew HR.out
    exact ⟨rng_part h9, h9.cell 27 QA.out, h9.cell 28 QB.out⟩
  refine wpAnyH_take (i := 0) (v := ?_) rfl (by decide +kernel) (by decide +kernel) (by decide +kernel) (fun _ _ _ h => h) (Or.inl ⟨by rfl, ?_⟩) (by assumption) ?_
  rotate_left
  · intro w2 hSw
    (try dsimp only at hSw)
    (try (obtain ⟨hs1, hs2⟩ := hSw))
    go_simp
    (try (with_reducible rfl))
  (try simp only [Act.put, lga, lgz, lgs, lsa, lsz, lss])
  refine wpAnyH_take (i := 1) (v := ?_) rfl (by decide +kernel) (by decide +kernel) (by decide +kernel) (fun _ _ _ h => h) (Or.inl ⟨by rfl, ?_⟩) (by assumption) ?_
  rotate_left
  · intro w2 hSw
    (try dsimp only at hSw)
    (try (obtain ⟨hs1, hs2⟩ := hSw))
    go_simp
    (try (with_reducible rfl))
  (try simp only [Act.put, lga, lgz, lgs, lsa, lsz, lss])
  refine wpAnyH_take (i := 2) (v := ?_) rfl (by decide +kernel) (by decide +kernel) (by decide +kernel) (fun _ _ _ h => h) (Or.inl ⟨by rfl, ?_⟩) (by assumption) ?_
  rotate_left
  · intro w2 hSw
    (try dsimp only at hSw)
    (try (obtain ⟨hs1, hs2⟩ := hSw))
    go_simp
    (try (with_reducible rfl))
  (try simp only [Act.put, lga, lgz, lgs, lsa, lsz, lss])
  refine wpAnyH_take (i := 3) rfl (by decide +kernel) (by decide +kernel) (by decide +kernel) (fun _ _ _ h => h) (yieldsIf_load_mid (by rfl) 67 (.tmp 10) rfl g 0 rfl C _ (fun _ h => h.1) Tryd.underlying67 rfl (by rw [← HC.out]; exact infoLv)) (by assumption) ?_
  (try simp only [Act.put, lga, lgz, lgs, lsa, lsz, lss])
  refine wpAnyH_take (i := 5) (v := ?_) rfl (by decide +kernel) (by decide +kernel) (by decide +kernel) (fun _ _ _ h => h) (Or.inl ⟨by rfl, ?_⟩) (by assumption) ?_
  rotate_left
  · intro w2 hSw
    (try dsimp only at hSw)
    (try (obtain ⟨hs1, hs2⟩ := hSw))
    go_simp
    (try (with_reducible rfl))
  (try simp only [Act.put, lga, lgz, lgs, lsa, lsz, lss])
  refine wpAnyH_take (i := 6) (v := ?_) rfl (by decide +kernel) (by decide +kernel) (by decide +kernel) (fun _ _ _ h => h) (Or.inl ⟨by rfl, ?_⟩) (by assumption) ?_
  rotate_left
  · intro w2 hSw
    (try dsimp only at hSw)
    (try (obtain ⟨hs1, hs2⟩ := hSw))
    go_simp
    (try (with_reducible rfl))
  (try simp only [Act.put, lga, lgz, lgs, lsa, lsz, lss])
  refine wpAnyH_take (i := 7) (v := ?_) rfl (by decide +kernel) (by decide +kernel) (by decide +kernel) (fun _ _ _ h => h) (Or.inl ⟨by rfl, ?_⟩) (by assumption) ?_
  rotate_left
  · intro w2 hSw
    (try dsimp only at hSw)
    (try (obtain ⟨hs1, hs2⟩ := hSw))
    go_simp
    (try (with_reducible rfl))
  (try simp only [Act.put, lga, lgz, lgs, lsa, lsz, lss])
  refine wpAnyH_take (i := 8) (v := ?_) rfl (by decide +kernel) (by decide +kernel) (by decide +kernel) (fun _ _ _ h => h) (Or.inl ⟨by rfl, ?_⟩) (by assumption) ?_
  rotate_left
  · intro w2 hSw
    (try dsimp only at hSw)
    (try (obtain ⟨hs1, hs2⟩ := hSw))
    go_simp
    (try (with_reducible rfl))
  (try simp only [Act.put, lga, lgz, lgs, lsa, lsz, lss])
  refine wpAnyH_take (i := 9) (v := ?_) rfl (by decide +kernel) (by decide +kernel) (by decide +kernel) (fun _ _ _ h => h) (Or.inl ⟨by rfl, ?_⟩) (by assumption) ?_
  rotate_left
  · intro w2 hSw
    (try dsimp only at hSw)
    (try (obtain ⟨hs1, hs2⟩ := hSw))
    go_simp
    (try (with_reducible rfl))
  (try simp only [Act.put, lga, lgz, lgs, lsa, lsz, lss])
  refine wpAnyH_take (i := 10) (v := ?_) rfl (by decide +kernel) (by decide +kernel) (by decide +kernel) (fun _ _ _ h => h) (Or.inl ⟨by rfl, ?_⟩) (by assumption) ?_
  rotate_left
  · intro w2 hSw
    (try dsimp only at hSw)
    (try (obtain ⟨hs1, hs2⟩ := hSw))
    go_simp
    (try (with_reducible rfl))
  (try simp only [Act.put, lga, lgz, lgs, lsa, lsz, lss])
  refine wpAnyH_take (i := 11) (v := ?_) rfl (by decide +kernel) (by decide +kernel) (by decide +kernel) (fun _ _ _ h => h) (Or.inl ⟨by rfl, ?_⟩) (by assumption) ?_
  rotate_left
  · intro w2 hSw
    (try dsimp only at hSw)
    (try (obtain ⟨hs1, hs2⟩ := hSw))
    go_simp
    (try (with_reducible rfl))
  (try simp only [Act.put, lga, lgz, lgs, lsa, lsz, lss])
  refine wpAnyH_take (i := 12) (v := ?_) rfl (by decide +kernel) (by decide +kernel) (by decide +kernel) (fun _ _ _ h => h) (Or.inl ⟨by rfl, ?_⟩) (by assumption) ?_
  rotate_left
  · intro w2 hSw
    (try dsimp only at hSw)
    (try (obtain ⟨hs1, hs2⟩ := hSw))
    go_simp
    (try (with_reducible rfl))
  (try simp only [Act.put, lga, lgz, lgs, lsa, lsz, lss])
  refine wpAnyH_ready (rs := [4]) (by decide +kernel) (by simp) ?_
  refine AllReadyH.cons rfl (fun K hK => ?_) (AllReadyH.nil)
  (try simp only [lga, lgz, lgs])
  (go_simp; go_at_call 40; (refine Calls.mono (show Calls _ _ #[.agg C.toArray] _ _ from (by rw [← HC.out]; exact copied_L x.l _ (HG.out.cur.up (Up.drew (Up.refl w))) HL.out)) ?_); rintro E w1 ⟨l1, rfl, hd1, ht1, ho1, hf1, hu1⟩; have HD1 := Lib.hid hd1; have HT1 := Lib.hid ht1; have HO1 := Lib.hid ho1; have HF1 : Hid (∀ b ∈ l1.bl, w.heap.size ≤ b ∧ b < w1.heap.size) := Lib.hid (fun b hb => by have := hf1 b hb; simpa using this); have HU1 : Hid (Up w w1) := Lib.hid ((Up.drew (Up.refl w)).call hu1); have e1 : l1.cells.toArray = #[.int .i64 l1.s.c.a, .int .i64 l1.s.c.b, .int .i64 l1.s.c.c, .int .i64 l1.s.c.d, .int .i64 l1.s.c.x, .int .i64 l1.s.c.y, .int .i64 l1.s.sp, .int .i64 l1.s.p0, .int .i64 l1.s.p1, .int .i64 l1.s.p2, .int .i64 l1.s.p3, .int .i64 l1.s.wd, .int .i64 l1.s.cap, .int .i64 l1.s.jn, .int .i64 l1.s.mt, l1.s.dv, .int .i64 l1.s.ph, .int .i64 l1.s.fn, .int .i64 l1.s.fm.a, .int .i64 l1.s.fm.b, .int .i64 l1.s.fm.c, .int .i64 l1.s.fm.d, .int .i64 l1.s.fm.x, .int .i64 l1.s.fm.y, l1.s.cv, .bool l1.s.dk, .pointer (some ⟨l1.p, 0, none⟩)] := rfl; rw [e1]; clear hd1 ht1 ho1 hf1 e1 hu1; (try dsimp only))
  refine hK.out _ _ ?_ (fun hHeld => ?_)
  · exact ⟨rng_part (HR.out.up HU1.out), (HR.out.up HU1.out).cell 27 QA.out, (HR.out.up HU1.out).cell 28 QB.out⟩
  clear hK K
  (try simp only [Act.put, lga, lgz, lgs, lsa, lsz, lss])
  refine wpAnyH_take (i := 13) (v := ?_) rfl (by decide +kernel) (by decide +kernel) (by decide +kernel) (fun _ _ _ h => h) (Or.inl ⟨by rfl, ?_⟩) (by assumption) ?_
  rotate_left
  · intro w2 hSw
    (try dsimp only at hSw)
    (try (obtain ⟨hs1, hs2⟩ := hSw))
    go_simp
    (try (with_reducible rfl))
  (try simp only [Act.put, lga, lgz, lgs, lsa, lsz, lss])
  refine wpAnyH_ready (rs := [14]) (by decide +kernel) (by simp) ?_
  refine AllReadyH.cons rfl (fun K hK => ?_) (AllReadyH.nil)
  (try simp only [lga, lgz, lgs])
  (go_simp; have RB : Row (w1.alloc (.cells #[.int .i64 l1.s.c.a, .int .i64 l1.s.c.b, .int .i64 l1.s.c.c, .int .i64 l1.s.c.d, .int .i64 l1.s.c.x, .int .i64 l1.s.c.y, .int .i64 l1.s.sp, .int .i64 l1.s.p0, .int .i64 l1.s.p1, .int .i64 l1.s.p2, .int .i64 l1.s.p3, .int .i64 l1.s.wd, .int .i64 l1.s.cap, .int .i64 l1.s.jn, .int .i64 l1.s.mt, l1.s.dv, .int .i64 l1.s.ph, .int .i64 l1.s.fn, .int .i64 l1.s.fm.a, .int .i64 l1.s.fm.b, .int .i64 l1.s.fm.c, .int .i64 l1.s.fm.d, .int .i64 l1.s.fm.x, .int .i64 l1.s.fm.y, l1.s.cv, .bool l1.s.dk, .pointer (some ⟨l1.p, 0, none⟩), .int .i64 x.most, .int .i64 x.segs, .slice none 0 0] 70)) w1.heap.size #[.int .i64 l1.s.c.a, .int .i64 l1.s.c.b, .int .i64 l1.s.c.c, .int .i64 l1.s.c.d, .int .i64 l1.s.c.x, .int .i64 l1.s.c.y, .int .i64 l1.s.sp, .int .i64 l1.s.p0, .int .i64 l1.s.p1, .int .i64 l1.s.p2, .int .i64 l1.s.p3, .int .i64 l1.s.wd, .int .i64 l1.s.cap, .int .i64 l1.s.jn, .int .i64 l1.s.mt, l1.s.dv, .int .i64 l1.s.ph, .int .i64 l1.s.fn, .int .i64 l1.s.fm.a, .int .i64 l1.s.fm.b, .int .i64 l1.s.fm.c, .int .i64 l1.s.fm.d, .int .i64 l1.s.fm.x, .int .i64 l1.s.fm.y, l1.s.cv, .bool l1.s.dk, .pointer (some ⟨l1.p, 0, none⟩), .int .i64 x.most, .int .i64 x.segs, .slice none 0 0] := (by (repeat' (with_reducible first | assumption | (refine Row.at _ _ ?_; (simp; done)) | refine Row.alloc ?_ _ | refine Row.drew ?_ | refine Row.drewN ?_ _ | refine Row.other ?_ (by first | (simp; done) | (simp; omega) | omega) _ | refine Row.up ?_ (by assumption) | refine Row.chg ?_ (by assumption) (by first | (simp; done) | (simp; omega))))); have UB : Hid (Up w1 (w1.alloc (.cells #[.int .i64 l1.s.c.a, .int .i64 l1.s.c.b, .int .i64 l1.s.c.c, .int .i64 l1.s.c.d, .int .i64 l1.s.c.x, .int .i64 l1.s.c.y, .int .i64 l1.s.sp, .int .i64 l1.s.p0, .int .i64 l1.s.p1, .int .i64 l1.s.p2, .int .i64 l1.s.p3, .int .i64 l1.s.wd, .int .i64 l1.s.cap, .int .i64 l1.s.jn, .int .i64 l1.s.mt, l1.s.dv, .int .i64 l1.s.ph, .int .i64 l1.s.fn, .int .i64 l1.s.fm.a, .int .i64 l1.s.fm.b, .int .i64 l1.s.fm.c, .int .i64 l1.s.fm.d, .int .i64 l1.s.fm.x, .int .i64 l1.s.fm.y, l1.s.cv, .bool l1.s.dk, .pointer (some ⟨l1.p, 0, none⟩), .int .i64 x.most, .int .i64 x.segs, .slice none 0 0] 70))) := Lib.hid (Up.alloc (Up.refl w1) _); have HRB := Lib.hid RB; clear RB)
  refine hK.out _ _ ?_ (fun hHeld => ?_)
  · exact ⟨rng_part ((HR.out.up HU1.out).up UB.out), ((HR.out.up HU1.out).up UB.out).cell 27 QA.out, ((HR.out.up HU1.out).up UB.out).cell 28 QB.out⟩
  clear hK K
  (try simp only [Act.put, lga, lgz, lgs, lsa, lsz, lss])
  refine wpAnyH_take (i := 15) (v := ?_) rfl (by decide +kernel) (by decide +kernel) (by decide +kernel) (fun _ _ _ h => h) (Or.inl ⟨by rfl, ?_⟩) (by assumption) ?_
  rotate_left
  · intro w2 hSw
    (try dsimp only at hSw)
    (try (obtain ⟨hs1, hs2⟩ := hSw))
    go_simp
    (try (with_reducible rfl))
  (try simp only [Act.put, lga, lgz, lgs, lsa, lsz, lss])
  refine wpAnyH_done (by decide +kernel) ?_ _
  obtain ⟨B, hB⟩ : ∃ B, w1.heap.size = B := ⟨_, rfl⟩
  have HBe := Lib.hid hB
  obtain ⟨w2, hw2⟩ : ∃ w2, w1.alloc (.cells #[.int .i64 l1.s.c.a, .int .i64 l1.s.c.b, .int .i64 l1.s.c.c, .int .i64 l1.s.c.d, .int .i64 l1.s.c.x, .int .i64 l1.s.c.y, .int .i64 l1.s.sp, .int .i64 l1.s.p0, .int .i64 l1.s.p1, .int .i64 l1.s.p2, .int .i64 l1.s.p3, .int .i64 l1.s.wd, .int .i64 l1.s.cap, .int .i64 l1.s.jn, .int .i64 l1.s.mt, l1.s.dv, .int .i64 l1.s.ph, .int .i64 l1.s.fn, .int .i64 l1.s.fm.a, .int .i64 l1.s.fm.b, .int .i64 l1.s.fm.c, .int .i64 l1.s.fm.d, .int .i64 l1.s.fm.x, .int .i64 l1.s.fm.y, l1.s.cv, .bool l1.s.dk, .pointer (some ⟨l1.p, 0, none⟩), .int .i64 x.most, .int .i64 x.segs, .slice none 0 0] 70) = w2 := ⟨_, rfl⟩
  rw [hw2] at HRB UB
  rw [hB] at HRB
  have HP0 := Lib.hid (Cp.first hB HU1.out UB.out HD1.out HT1.out HO1.out HF1.out (show Row w2 B (⟨l1, x.most, x.segs, .slice none 0 0, []⟩ : X).cells.toArray from HRB.out))
  have q29w : w2.cell? ⟨g, 29, none⟩ = some (.slice so n sc) := ((HP0.out.up).cells.1 g 29 lt).trans q29
  have lt2 : g < w2.heap.size := Nat.lt_of_lt_of_le lt HP0.out.up.size
  (try rw [hw2])
  (try rw [hB])
  clear hw2 hB HD1 HT1 HO1 HF1 HRB UB HU1
  go_wp2_with fail
  go_loopw [28] (fun i wr => ∃ (k : Nat) (y : X), k ≤ n ∧ i = .int .i64 k ∧ Hid (Cp w wr B x y k)) (fun i _ => n - (intOf i).toNat)
  case atStart => exact ⟨0, _, Nat.zero_le _, rfl, HP0⟩
  case round =>
    obtain ⟨k, y, hk, rfl, HP⟩ := hrel
    by_cases hlt : k < n
    rotate_left
    · obtain rfl : k = n := by omega
      go_wp2
      go_returns
      exact ⟨B, y, rfl, HP.out⟩
    obtain ⟨lv, hlv⟩ : ∃ lv, x.saved[k]? = some lv := ⟨_, List.getElem?_eq_getElem (by have := HN.out; omega)⟩
    have HLV := Lib.hid hlv
    have HGR := Lib.hid (HG.out.up HP.out.up)
    obtain ⟨gs, rfl⟩ : ∃ gs, so = some ⟨gs, 0, none⟩ := by
      have h9 := HG.out.own
      rw [HSV.out, HN.out] at h9
      rcases owned_form h9 with ⟨_, h0⟩ | ⟨gs, cap, e, _⟩
      · omega
      · injection e with e1; exact ⟨gs, e1⟩
    have HOW : Hid (wr.ownsRow 0 67 27 (.slice (some ⟨gs, 0, none⟩) n sc) n (x.saved.flatMap Lv.cells)) := Lib.hid (by have h9 := HGR.out.own; rw [HSV.out, HN.out] at h9; exact h9)
    obtain ⟨CV, hCV⟩ : ∃ CV, lv.cells = CV := ⟨_, rfl⟩
    have HCV := Lib.hid hCV
    have HRV : Hid (wr.rangeAt gs (k * 27) CV) := Lib.hid (by rw [← hCV]; exact rng_cp HOW.out HN.out hlv)
    have HLOr := Lib.hid (HGR.out.svs lv (List.mem_of_getElem? hlv))
    have HLL : Hid (Le lv.s.dat) := Lib.hid (HI.out.les (lv.s.dat, lv.t) (List.mem_map.2 ⟨lv, List.mem_of_getElem? hlv, rfl⟩))
    obtain ⟨so2, sc2, hsy⟩ := sv_form HP.out.gg
    rw [HP.out.n] at hsy
    have HSY := Lib.hid hsy
    have q29y : wr.cell? ⟨B, 29, none⟩ = some (.slice so2 k sc2) := by rw [← hsy]; exact HP.out.gg.row.cell 29 rfl
    have HQ29 := Lib.hid q29y
    have f29y := HP.out.gg.row.free 29
    have ltB := HP.out.gg.row.lt
    have HBB : Hid (B ≠ wr.heap.size) := Lib.hid (by omega)
    have HNB : Hid (wr.heap.size ∉ own y.sv) := Lib.hid (fun h2 => by have := HP.out.gg.lt wr.heap.size (by simp [X.bl, X.low, h2]); omega)
    clear hlv hCV hsy
    go_upto_region 7 with (first
      | ((refine at_op (.load 67 (.tmp 30)) rfl ?_); refine wpList_load_mid rfl 67 (.tmp 30) rfl gs (k * 27) (by first | rfl | simp) CV _ HRV.out Tryd.underlying67 rfl (by rw [← HCV.out]; exact infoLv) ?_)
      | ((refine at_op (.store 67 (.tmp 5) _) rfl ?_); (refine wpList_store_Row rfl 67 (.tmp 5) _ rfl wr.heap.size CV.toArray rfl rfl #[.int .i64 0, .int .i64 0, .int .i64 0, .int .i64 0, .int .i64 0, .int .i64 0, .int .i64 0, .int .i64 0, .int .i64 0, .int .i64 0, .int .i64 0, .int .i64 0, .int .i64 0, .int .i64 0, .int .i64 0, .slice none 0 0, .int .i64 0, .int .i64 0, .int .i64 0, .int .i64 0, .int .i64 0, .int .i64 0, .int .i64 0, .int .i64 0, .slice none 0 0, .bool false, .pointer none] (by (repeat' (with_reducible first | assumption | (refine Row.at _ _ ?_; (simp; done)) | refine Row.alloc ?_ _ | refine Row.drew ?_ | refine Row.drewN ?_ _ | refine Row.other ?_ (by first | (simp; done) | (simp; omega) | omega) _ | refine Row.up ?_ (by assumption) | refine Row.chg ?_ (by assumption) (by first | (simp; done) | (simp; omega))))) infoLv (by rw [← HCV.out]; rfl) rfl (by rw [← HCV.out]; exact all_oneCell_toArray (Lv.one HLOr.out.s)) ?_); intro w3 hr3 hc3; have HR3 := Lib.hid hr3; have HU3 := Lib.hid (show Up wr w3 from ((Chg.of_up (S := []) (Up.alloc (Up.refl wr) _)).call hc3 (fun b hb => Or.inr (by rw [List.mem_singleton] at hb; subst hb; exact Nat.le_refl _))).up); have q29y := (HU3.out.cells.1 B 29 ltB).trans q29y; clear hr3 hc3))
    have HUD : Hid (Up wr w3.drew) := Lib.hid (Up.drew HU3.out)
    have HLO := HLOr
    refine wp_region_held_drew (S := fun w' => Row w' wr.heap.size CV.toArray) (by kernel_rfl) ?_ (fun hHeld => ?_)
    · exact Row.drew HR3.out
    refine wpAnyH_take (i := 0) (v := ?_) rfl (by decide +kernel) (by decide +kernel) (by decide +kernel) (fun _ _ _ h => h) (Or.inl ⟨by rfl, ?_⟩) (by assumption) ?_
    rotate_left
    · intro w2 hSw
      (try dsimp only at hSw)
      (try (obtain ⟨hs1, hs2⟩ := hSw))
      go_simp
      (try (with_reducible rfl))
    (try simp only [Act.put, lga, lgz, lgs, lsa, lsz, lss])
    refine wpAnyH_take (i := 1) (v := ?_) rfl (by decide +kernel) (by decide +kernel) (by decide +kernel) (fun _ _ _ h => h) (Or.inl ⟨by rfl, ?_⟩) (by assumption) ?_
    rotate_left
    · intro w2 hSw
      (try dsimp only at hSw)
      (try (obtain ⟨hs1, hs2⟩ := hSw))
      go_simp
      (try (with_reducible rfl))
    (try simp only [Act.put, lga, lgz, lgs, lsa, lsz, lss])
    refine wpAnyH_take (i := 2) (v := ?_) rfl (by decide +kernel) (by decide +kernel) (by decide +kernel) (fun _ _ _ h => h) (Or.inl ⟨by rfl, ?_⟩) (by assumption) ?_
    rotate_left
    · intro w2 hSw
      (try dsimp only at hSw)
      (try (obtain ⟨hs1, hs2⟩ := hSw))
      go_simp
      (try (with_reducible rfl))
    (try simp only [Act.put, lga, lgz, lgs, lsa, lsz, lss])
    refine wpAnyH_take (i := 3) (v := ?_) rfl (by decide +kernel) (by decide +kernel) (by decide +kernel) (fun _ _ _ h => h) (Or.inl ⟨by rfl, ?_⟩) (by assumption) ?_
    rotate_left
    · intro w2 hSw
      (try dsimp only at hSw)
      (try (obtain ⟨hs1, hs2⟩ := hSw))
      go_simp
      (try (with_reducible rfl))
    (try simp only [Act.put, lga, lgz, lgs, lsa, lsz, lss])
    refine wpAnyH_take (i := 5) rfl (by decide +kernel) (by decide +kernel) (by decide +kernel) (fun _ _ _ h => h) (yieldsIf_load_mid (by rfl) 67 (.tmp 5) rfl wr.heap.size 0 rfl CV _ (fun _ h => by have h1 := Pt.rng0 h; simpa using h1) Tryd.underlying67 rfl (by rw [← HCV.out]; exact infoLv)) (by assumption) ?_
    (try simp only [Act.put, lga, lgz, lgs, lsa, lsz, lss])
    refine wpAnyH_ready (rs := [4, 6]) (by decide +kernel) (by simp) ?_
    refine AllReadyH.cons rfl (fun K hK => ?_) (AllReadyH.cons rfl (fun K hK => ?_) (AllReadyH.nil))
    · skip
      (try simp only [lga, lgz, lgs])
      (go_simp)
      refine hK.out _ _ ?_ (fun hHeld => ?_)
      · (first | exact hHeld)
      clear hK K
      (try simp only [Act.put, lga, lgz, lgs, lsa, lsz, lss])
      refine wpAnyH_ready (rs := [6]) (by decide +kernel) (by simp) ?_
      refine AllReadyH.cons rfl (fun K hK => ?_) (AllReadyH.nil)
      (try simp only [lga, lgz, lgs])
      (go_simp; go_at_call 40; (refine Calls.mono (show Calls _ _ #[.agg CV.toArray] _ _ from (by rw [← HCV.out]; exact copied_L lv _ (HLO.out.up HUD.out) HLL.out)) ?_); rintro E w5 ⟨l1, rfl, hd1, ht1, ho1, hf1, hu1⟩; have HD2 := Lib.hid hd1; have HT2 := Lib.hid ht1; have HO2 := Lib.hid ho1; have HF2 : Hid (∀ b ∈ l1.bl, wr.heap.size ≤ b ∧ b < w5.heap.size) := Lib.hid (fun b hb => ⟨Nat.le_trans HUD.out.size (hf1 b hb).1, (hf1 b hb).2⟩); have HU5 : Hid (Up wr w5) := Lib.hid (HUD.out.call hu1); have HU5d := Lib.hid hu1; have e1 : l1.cells.toArray = #[.int .i64 l1.s.c.a, .int .i64 l1.s.c.b, .int .i64 l1.s.c.c, .int .i64 l1.s.c.d, .int .i64 l1.s.c.x, .int .i64 l1.s.c.y, .int .i64 l1.s.sp, .int .i64 l1.s.p0, .int .i64 l1.s.p1, .int .i64 l1.s.p2, .int .i64 l1.s.p3, .int .i64 l1.s.wd, .int .i64 l1.s.cap, .int .i64 l1.s.jn, .int .i64 l1.s.mt, l1.s.dv, .int .i64 l1.s.ph, .int .i64 l1.s.fn, .int .i64 l1.s.fm.a, .int .i64 l1.s.fm.b, .int .i64 l1.s.fm.c, .int .i64 l1.s.fm.d, .int .i64 l1.s.fm.x, .int .i64 l1.s.fm.y, l1.s.cv, .bool l1.s.dk, .pointer (some ⟨l1.p, 0, none⟩)] := rfl; rw [e1]; clear hd1 ht1 ho1 hf1 e1 hu1; have q29b : w5.cell? ⟨B, 29, none⟩ = some (.slice so2 k sc2) := (HU5.out.cells.1 B 29 ltB).trans HQ29.out; have lt5 : B < w5.heap.size := Nat.lt_of_lt_of_le ltB HU5.out.size; (try dsimp only))
      refine hK.out _ _ ?_ (fun hHeld => ?_)
      · exact Row.up hHeld HU5d.out
      clear hK K
      (try simp only [Act.put, lga, lgz, lgs, lsa, lsz, lss])
      refine wpAnyH_ready (rs := [7]) (by decide +kernel) (by simp) ?_
      refine AllReadyH.cons rfl (fun K hK => ?_) (AllReadyH.nil)
      (try simp only [lga, lgz, lgs])
      (go_simp; have RN1 : Row (w5.alloc (.cells #[.int .i64 l1.s.c.a, .int .i64 l1.s.c.b, .int .i64 l1.s.c.c, .int .i64 l1.s.c.d, .int .i64 l1.s.c.x, .int .i64 l1.s.c.y, .int .i64 l1.s.sp, .int .i64 l1.s.p0, .int .i64 l1.s.p1, .int .i64 l1.s.p2, .int .i64 l1.s.p3, .int .i64 l1.s.wd, .int .i64 l1.s.cap, .int .i64 l1.s.jn, .int .i64 l1.s.mt, l1.s.dv, .int .i64 l1.s.ph, .int .i64 l1.s.fn, .int .i64 l1.s.fm.a, .int .i64 l1.s.fm.b, .int .i64 l1.s.fm.c, .int .i64 l1.s.fm.d, .int .i64 l1.s.fm.x, .int .i64 l1.s.fm.y, l1.s.cv, .bool l1.s.dk, .pointer (some ⟨l1.p, 0, none⟩)] 67)) w5.heap.size #[.int .i64 l1.s.c.a, .int .i64 l1.s.c.b, .int .i64 l1.s.c.c, .int .i64 l1.s.c.d, .int .i64 l1.s.c.x, .int .i64 l1.s.c.y, .int .i64 l1.s.sp, .int .i64 l1.s.p0, .int .i64 l1.s.p1, .int .i64 l1.s.p2, .int .i64 l1.s.p3, .int .i64 l1.s.wd, .int .i64 l1.s.cap, .int .i64 l1.s.jn, .int .i64 l1.s.mt, l1.s.dv, .int .i64 l1.s.ph, .int .i64 l1.s.fn, .int .i64 l1.s.fm.a, .int .i64 l1.s.fm.b, .int .i64 l1.s.fm.c, .int .i64 l1.s.fm.d, .int .i64 l1.s.fm.x, .int .i64 l1.s.fm.y, l1.s.cv, .bool l1.s.dk, .pointer (some ⟨l1.p, 0, none⟩)] := (by (repeat' (with_reducible first | assumption | (refine Row.at _ _ ?_; (simp; done)) | refine Row.alloc ?_ _ | refine Row.drew ?_ | refine Row.drewN ?_ _ | refine Row.other ?_ (by first | (simp; done) | (simp; omega) | omega) _ | refine Row.up ?_ (by assumption) | refine Row.chg ?_ (by assumption) (by first | (simp; done) | (simp; omega))))); have UA : Hid (Up w5 (w5.alloc (.cells #[.int .i64 l1.s.c.a, .int .i64 l1.s.c.b, .int .i64 l1.s.c.c, .int .i64 l1.s.c.d, .int .i64 l1.s.c.x, .int .i64 l1.s.c.y, .int .i64 l1.s.sp, .int .i64 l1.s.p0, .int .i64 l1.s.p1, .int .i64 l1.s.p2, .int .i64 l1.s.p3, .int .i64 l1.s.wd, .int .i64 l1.s.cap, .int .i64 l1.s.jn, .int .i64 l1.s.mt, l1.s.dv, .int .i64 l1.s.ph, .int .i64 l1.s.fn, .int .i64 l1.s.fm.a, .int .i64 l1.s.fm.b, .int .i64 l1.s.fm.c, .int .i64 l1.s.fm.d, .int .i64 l1.s.fm.x, .int .i64 l1.s.fm.y, l1.s.cv, .bool l1.s.dk, .pointer (some ⟨l1.p, 0, none⟩)] 67))) := Lib.hid (Up.alloc (Up.refl w5) _); have q29c := (UA.out.cells.1 B 29 lt5).trans q29b)
      refine hK.out _ _ ?_ (fun hHeld => ?_)
      · exact Row.up hHeld UA.out
      clear hK K
      (try simp only [Act.put, lga, lgz, lgs, lsa, lsz, lss])
      refine wpAnyH_ready (rs := [8]) (by decide +kernel) (by simp) ?_
      refine AllReadyH.cons rfl (fun K hK => ?_) (AllReadyH.nil)
      (try simp only [lga, lgz, lgs])
      (rw [if_pos (by rfl)]; refine wp_append_lies _ (.tmp 36) (.tmp 39) 68 rfl 0 67 i0 _ 27 248 Tryd.underlying68 hi hz0 hz1 hz2 rfl (by decide) (.slice so2 k sc2) k (y.saved.flatMap Lv.cells) rfl (raw_up (by have h9 := HP.out.gg.own; rw [HSY.out, HP.out.n] at h9; exact h9) (HU5.out.call UA.out)) ⟨w5.heap.size, 0, none⟩ 1 1 l1.cells rfl rfl (news_at RN1 rfl) (Lv.one HO2.out.s) (by decide) (by unfold maxLen; omega) (by omega) (Nat.zero_le _) _ rfl ?_; intro g5 c5 w6 hown5 hgr5 hat5 hg5; have HC6 : Hid (Chg (own y.sv) (w5.alloc (.cells #[.int .i64 l1.s.c.a, .int .i64 l1.s.c.b, .int .i64 l1.s.c.c, .int .i64 l1.s.c.d, .int .i64 l1.s.c.x, .int .i64 l1.s.c.y, .int .i64 l1.s.sp, .int .i64 l1.s.p0, .int .i64 l1.s.p1, .int .i64 l1.s.p2, .int .i64 l1.s.p3, .int .i64 l1.s.wd, .int .i64 l1.s.cap, .int .i64 l1.s.jn, .int .i64 l1.s.mt, l1.s.dv, .int .i64 l1.s.ph, .int .i64 l1.s.fn, .int .i64 l1.s.fm.a, .int .i64 l1.s.fm.b, .int .i64 l1.s.fm.c, .int .i64 l1.s.fm.d, .int .i64 l1.s.fm.x, .int .i64 l1.s.fm.y, l1.s.cv, .bool l1.s.dk, .pointer (some ⟨l1.p, 0, none⟩)] 67)) w6) := Lib.hid (by rw [HSY.out]; exact Chg.grown (Chg.of_up (Up.refl _)) hgr5 (fun k hk => Or.inl (own_mem hk))); have HTO : Hid (To wr (w6.setCell ⟨B, 29, none⟩ (.slice (some ⟨g5, 0, none⟩) (k + 1) c5)) B y (kept y l1 g5 k c5)) := Lib.hid (To.save HP.out.gg HP.out.n HU5.out HO2.out HF2.out UA.out HC6.out hown5 (by rw [HSY.out]; exact hat5)); have RG6 : Row w6 B y.cells.toArray := ((HP.out.gg.row.up HU5.out).up UA.out).chg HC6.out (fun h2 => (List.nodup_cons.1 HP.out.gg.nd).1 (List.mem_append_right _ (List.mem_append_left _ h2))); have q29d := RG6.cell 29 rfl; have f29d := RG6.free 29; have lt6 := RG6.lt; clear hown5 hgr5 hat5)
      refine hK.out _ _ ?_ (fun hHeld => ?_)
      · exact Row.chg (hHeld) HC6.out HNB.out
      clear hK K
      (try simp only [Act.put, lga, lgz, lgs, lsa, lsz, lss])
      refine wpAnyH_take (i := 9) (v := ?_) rfl (by decide +kernel) (by decide +kernel) (by decide +kernel) (fun _ _ _ h => h) (Or.inl ⟨by rfl, ?_⟩) (by assumption) ?_
      rotate_left
      · intro w2 hSw
        (try dsimp only at hSw)
        (try (obtain ⟨hs1, hs2⟩ := hSw))
        go_simp
        (try (with_reducible rfl))
      (try simp only [Act.put, lga, lgz, lgs, lsa, lsz, lss])
      refine wpAnyH_take (i := 10) (v := ?_) rfl (by decide +kernel) (by decide +kernel) (by decide +kernel) (fun _ _ _ h => h) (Or.inl ⟨by rfl, ?_⟩) (by assumption) ?_
      rotate_left
      · intro w2 hSw
        (try dsimp only at hSw)
        (try (obtain ⟨hs1, hs2⟩ := hSw))
        go_simp
        (try (with_reducible rfl))
      (try simp only [Act.put, lga, lgz, lgs, lsa, lsz, lss])
      refine wpAnyH_ready (rs := [11]) (by decide +kernel) (by simp) ?_
      refine AllReadyH.cons rfl (fun K hK => ?_) (AllReadyH.nil)
      (try simp only [lga, lgz, lgs])
      go_simp
      refine hK.out _ _ ?_ (fun hHeld => ?_)
      · exact Row.other hHeld HBB.out _
      clear hK K
      refine wpAnyH_done (by decide +kernel) ?_ _
      go_wp2
      go_roundw
      case rel => exact ⟨k + 1, kept y l1 g5 k c5, by omega, by go_num, Lib.hid (HP.out.next HLV.out HD2.out HT2.out HTO.out)⟩
      case measure => simp [intOf]; omega
    · skip
      (try simp only [lga, lgz, lgs])
      (go_simp; go_at_call 40; (refine Calls.mono (show Calls _ _ #[.agg CV.toArray] _ _ from (by rw [← HCV.out]; exact copied_L lv _ (HLO.out.up HUD.out) HLL.out)) ?_); rintro E w5 ⟨l1, rfl, hd1, ht1, ho1, hf1, hu1⟩; have HD2 := Lib.hid hd1; have HT2 := Lib.hid ht1; have HO2 := Lib.hid ho1; have HF2 : Hid (∀ b ∈ l1.bl, wr.heap.size ≤ b ∧ b < w5.heap.size) := Lib.hid (fun b hb => ⟨Nat.le_trans HUD.out.size (hf1 b hb).1, (hf1 b hb).2⟩); have HU5 : Hid (Up wr w5) := Lib.hid (HUD.out.call hu1); have HU5d := Lib.hid hu1; have e1 : l1.cells.toArray = #[.int .i64 l1.s.c.a, .int .i64 l1.s.c.b, .int .i64 l1.s.c.c, .int .i64 l1.s.c.d, .int .i64 l1.s.c.x, .int .i64 l1.s.c.y, .int .i64 l1.s.sp, .int .i64 l1.s.p0, .int .i64 l1.s.p1, .int .i64 l1.s.p2, .int .i64 l1.s.p3, .int .i64 l1.s.wd, .int .i64 l1.s.cap, .int .i64 l1.s.jn, .int .i64 l1.s.mt, l1.s.dv, .int .i64 l1.s.ph, .int .i64 l1.s.fn, .int .i64 l1.s.fm.a, .int .i64 l1.s.fm.b, .int .i64 l1.s.fm.c, .int .i64 l1.s.fm.d, .int .i64 l1.s.fm.x, .int .i64 l1.s.fm.y, l1.s.cv, .bool l1.s.dk, .pointer (some ⟨l1.p, 0, none⟩)] := rfl; rw [e1]; clear hd1 ht1 ho1 hf1 e1 hu1; have q29b : w5.cell? ⟨B, 29, none⟩ = some (.slice so2 k sc2) := (HU5.out.cells.1 B 29 ltB).trans HQ29.out; have lt5 : B < w5.heap.size := Nat.lt_of_lt_of_le ltB HU5.out.size; (try dsimp only))
      refine hK.out _ _ ?_ (fun hHeld => ?_)
      · exact Row.up hHeld HU5d.out
      clear hK K
      (try simp only [Act.put, lga, lgz, lgs, lsa, lsz, lss])
      refine wpAnyH_ready (rs := [4, 7]) (by decide +kernel) (by simp) ?_
      refine AllReadyH.cons rfl (fun K hK => ?_) (AllReadyH.cons rfl (fun K hK => ?_) (AllReadyH.nil))
      · skip
        (try simp only [lga, lgz, lgs])
        (go_simp)
        refine hK.out _ _ ?_ (fun hHeld => ?_)
        · (first | exact hHeld)
        clear hK K
        (try simp only [Act.put, lga, lgz, lgs, lsa, lsz, lss])
        refine wpAnyH_ready (rs := [7]) (by decide +kernel) (by simp) ?_
        refine AllReadyH.cons rfl (fun K hK => ?_) (AllReadyH.nil)
        (try simp only [lga, lgz, lgs])
        (go_simp; have RN1 : Row (w5.alloc (.cells #[.int .i64 l1.s.c.a, .int .i64 l1.s.c.b, .int .i64 l1.s.c.c, .int .i64 l1.s.c.d, .int .i64 l1.s.c.x, .int .i64 l1.s.c.y, .int .i64 l1.s.sp, .int .i64 l1.s.p0, .int .i64 l1.s.p1, .int .i64 l1.s.p2, .int .i64 l1.s.p3, .int .i64 l1.s.wd, .int .i64 l1.s.cap, .int .i64 l1.s.jn, .int .i64 l1.s.mt, l1.s.dv, .int .i64 l1.s.ph, .int .i64 l1.s.fn, .int .i64 l1.s.fm.a, .int .i64 l1.s.fm.b, .int .i64 l1.s.fm.c, .int .i64 l1.s.fm.d, .int .i64 l1.s.fm.x, .int .i64 l1.s.fm.y, l1.s.cv, .bool l1.s.dk, .pointer (some ⟨l1.p, 0, none⟩)] 67)) w5.heap.size #[.int .i64 l1.s.c.a, .int .i64 l1.s.c.b, .int .i64 l1.s.c.c, .int .i64 l1.s.c.d, .int .i64 l1.s.c.x, .int .i64 l1.s.c.y, .int .i64 l1.s.sp, .int .i64 l1.s.p0, .int .i64 l1.s.p1, .int .i64 l1.s.p2, .int .i64 l1.s.p3, .int .i64 l1.s.wd, .int .i64 l1.s.cap, .int .i64 l1.s.jn, .int .i64 l1.s.mt, l1.s.dv, .int .i64 l1.s.ph, .int .i64 l1.s.fn, .int .i64 l1.s.fm.a, .int .i64 l1.s.fm.b, .int .i64 l1.s.fm.c, .int .i64 l1.s.fm.d, .int .i64 l1.s.fm.x, .int .i64 l1.s.fm.y, l1.s.cv, .bool l1.s.dk, .pointer (some ⟨l1.p, 0, none⟩)] := (by (repeat' (with_reducible first | assumption | (refine Row.at _ _ ?_; (simp; done)) | refine Row.alloc ?_ _ | refine Row.drew ?_ | refine Row.drewN ?_ _ | refine Row.other ?_ (by first | (simp; done) | (simp; omega) | omega) _ | refine Row.up ?_ (by assumption) | refine Row.chg ?_ (by assumption) (by first | (simp; done) | (simp; omega))))); have UA : Hid (Up w5 (w5.alloc (.cells #[.int .i64 l1.s.c.a, .int .i64 l1.s.c.b, .int .i64 l1.s.c.c, .int .i64 l1.s.c.d, .int .i64 l1.s.c.x, .int .i64 l1.s.c.y, .int .i64 l1.s.sp, .int .i64 l1.s.p0, .int .i64 l1.s.p1, .int .i64 l1.s.p2, .int .i64 l1.s.p3, .int .i64 l1.s.wd, .int .i64 l1.s.cap, .int .i64 l1.s.jn, .int .i64 l1.s.mt, l1.s.dv, .int .i64 l1.s.ph, .int .i64 l1.s.fn, .int .i64 l1.s.fm.a, .int .i64 l1.s.fm.b, .int .i64 l1.s.fm.c, .int .i64 l1.s.fm.d, .int .i64 l1.s.fm.x, .int .i64 l1.s.fm.y, l1.s.cv, .bool l1.s.dk, .pointer (some ⟨l1.p, 0, none⟩)] 67))) := Lib.hid (Up.alloc (Up.refl w5) _); have q29c := (UA.out.cells.1 B 29 lt5).trans q29b)
        refine hK.out _ _ ?_ (fun hHeld => ?_)
        · exact Row.up hHeld UA.out
        clear hK K
        (try simp only [Act.put, lga, lgz, lgs, lsa, lsz, lss])
        refine wpAnyH_ready (rs := [8]) (by decide +kernel) (by simp) ?_
        refine AllReadyH.cons rfl (fun K hK => ?_) (AllReadyH.nil)
        (try simp only [lga, lgz, lgs])
        (rw [if_pos (by rfl)]; refine wp_append_lies _ (.tmp 36) (.tmp 39) 68 rfl 0 67 i0 _ 27 248 Tryd.underlying68 hi hz0 hz1 hz2 rfl (by decide) (.slice so2 k sc2) k (y.saved.flatMap Lv.cells) rfl (raw_up (by have h9 := HP.out.gg.own; rw [HSY.out, HP.out.n] at h9; exact h9) (HU5.out.call UA.out)) ⟨w5.heap.size, 0, none⟩ 1 1 l1.cells rfl rfl (news_at RN1 rfl) (Lv.one HO2.out.s) (by decide) (by unfold maxLen; omega) (by omega) (Nat.zero_le _) _ rfl ?_; intro g5 c5 w6 hown5 hgr5 hat5 hg5; have HC6 : Hid (Chg (own y.sv) (w5.alloc (.cells #[.int .i64 l1.s.c.a, .int .i64 l1.s.c.b, .int .i64 l1.s.c.c, .int .i64 l1.s.c.d, .int .i64 l1.s.c.x, .int .i64 l1.s.c.y, .int .i64 l1.s.sp, .int .i64 l1.s.p0, .int .i64 l1.s.p1, .int .i64 l1.s.p2, .int .i64 l1.s.p3, .int .i64 l1.s.wd, .int .i64 l1.s.cap, .int .i64 l1.s.jn, .int .i64 l1.s.mt, l1.s.dv, .int .i64 l1.s.ph, .int .i64 l1.s.fn, .int .i64 l1.s.fm.a, .int .i64 l1.s.fm.b, .int .i64 l1.s.fm.c, .int .i64 l1.s.fm.d, .int .i64 l1.s.fm.x, .int .i64 l1.s.fm.y, l1.s.cv, .bool l1.s.dk, .pointer (some ⟨l1.p, 0, none⟩)] 67)) w6) := Lib.hid (by rw [HSY.out]; exact Chg.grown (Chg.of_up (Up.refl _)) hgr5 (fun k hk => Or.inl (own_mem hk))); have HTO : Hid (To wr (w6.setCell ⟨B, 29, none⟩ (.slice (some ⟨g5, 0, none⟩) (k + 1) c5)) B y (kept y l1 g5 k c5)) := Lib.hid (To.save HP.out.gg HP.out.n HU5.out HO2.out HF2.out UA.out HC6.out hown5 (by rw [HSY.out]; exact hat5)); have RG6 : Row w6 B y.cells.toArray := ((HP.out.gg.row.up HU5.out).up UA.out).chg HC6.out (fun h2 => (List.nodup_cons.1 HP.out.gg.nd).1 (List.mem_append_right _ (List.mem_append_left _ h2))); have q29d := RG6.cell 29 rfl; have f29d := RG6.free 29; have lt6 := RG6.lt; clear hown5 hgr5 hat5)
        refine hK.out _ _ ?_ (fun hHeld => ?_)
        · exact Row.chg (hHeld) HC6.out HNB.out
        clear hK K
        (try simp only [Act.put, lga, lgz, lgs, lsa, lsz, lss])
        refine wpAnyH_take (i := 9) (v := ?_) rfl (by decide +kernel) (by decide +kernel) (by decide +kernel) (fun _ _ _ h => h) (Or.inl ⟨by rfl, ?_⟩) (by assumption) ?_
        rotate_left
        · intro w2 hSw
          (try dsimp only at hSw)
          (try (obtain ⟨hs1, hs2⟩ := hSw))
          go_simp
          (try (with_reducible rfl))
        (try simp only [Act.put, lga, lgz, lgs, lsa, lsz, lss])
        refine wpAnyH_take (i := 10) (v := ?_) rfl (by decide +kernel) (by decide +kernel) (by decide +kernel) (fun _ _ _ h => h) (Or.inl ⟨by rfl, ?_⟩) (by assumption) ?_
        rotate_left
        · intro w2 hSw
          (try dsimp only at hSw)
          (try (obtain ⟨hs1, hs2⟩ := hSw))
          go_simp
          (try (with_reducible rfl))
        (try simp only [Act.put, lga, lgz, lgs, lsa, lsz, lss])
        refine wpAnyH_ready (rs := [11]) (by decide +kernel) (by simp) ?_
        refine AllReadyH.cons rfl (fun K hK => ?_) (AllReadyH.nil)
        (try simp only [lga, lgz, lgs])
        go_simp
        refine hK.out _ _ ?_ (fun hHeld => ?_)
        · exact Row.other hHeld HBB.out _
        clear hK K
        refine wpAnyH_done (by decide +kernel) ?_ _
        go_wp2
        go_roundw
        case rel => exact ⟨k + 1, kept y l1 g5 k c5, by omega, by go_num, Lib.hid (HP.out.next HLV.out HD2.out HT2.out HTO.out)⟩
        case measure => simp [intOf]; omega
      · skip
        (try simp only [lga, lgz, lgs])
        (go_simp; have RN1 : Row (w5.alloc (.cells #[.int .i64 l1.s.c.a, .int .i64 l1.s.c.b, .int .i64 l1.s.c.c, .int .i64 l1.s.c.d, .int .i64 l1.s.c.x, .int .i64 l1.s.c.y, .int .i64 l1.s.sp, .int .i64 l1.s.p0, .int .i64 l1.s.p1, .int .i64 l1.s.p2, .int .i64 l1.s.p3, .int .i64 l1.s.wd, .int .i64 l1.s.cap, .int .i64 l1.s.jn, .int .i64 l1.s.mt, l1.s.dv, .int .i64 l1.s.ph, .int .i64 l1.s.fn, .int .i64 l1.s.fm.a, .int .i64 l1.s.fm.b, .int .i64 l1.s.fm.c, .int .i64 l1.s.fm.d, .int .i64 l1.s.fm.x, .int .i64 l1.s.fm.y, l1.s.cv, .bool l1.s.dk, .pointer (some ⟨l1.p, 0, none⟩)] 67)) w5.heap.size #[.int .i64 l1.s.c.a, .int .i64 l1.s.c.b, .int .i64 l1.s.c.c, .int .i64 l1.s.c.d, .int .i64 l1.s.c.x, .int .i64 l1.s.c.y, .int .i64 l1.s.sp, .int .i64 l1.s.p0, .int .i64 l1.s.p1, .int .i64 l1.s.p2, .int .i64 l1.s.p3, .int .i64 l1.s.wd, .int .i64 l1.s.cap, .int .i64 l1.s.jn, .int .i64 l1.s.mt, l1.s.dv, .int .i64 l1.s.ph, .int .i64 l1.s.fn, .int .i64 l1.s.fm.a, .int .i64 l1.s.fm.b, .int .i64 l1.s.fm.c, .int .i64 l1.s.fm.d, .int .i64 l1.s.fm.x, .int .i64 l1.s.fm.y, l1.s.cv, .bool l1.s.dk, .pointer (some ⟨l1.p, 0, none⟩)] := (by (repeat' (with_reducible first | assumption | (refine Row.at _ _ ?_; (simp; done)) | refine Row.alloc ?_ _ | refine Row.drew ?_ | refine Row.drewN ?_ _ | refine Row.other ?_ (by first | (simp; done) | (simp; omega) | omega) _ | refine Row.up ?_ (by assumption) | refine Row.chg ?_ (by assumption) (by first | (simp; done) | (simp; omega))))); have UA : Hid (Up w5 (w5.alloc (.cells #[.int .i64 l1.s.c.a, .int .i64 l1.s.c.b, .int .i64 l1.s.c.c, .int .i64 l1.s.c.d, .int .i64 l1.s.c.x, .int .i64 l1.s.c.y, .int .i64 l1.s.sp, .int .i64 l1.s.p0, .int .i64 l1.s.p1, .int .i64 l1.s.p2, .int .i64 l1.s.p3, .int .i64 l1.s.wd, .int .i64 l1.s.cap, .int .i64 l1.s.jn, .int .i64 l1.s.mt, l1.s.dv, .int .i64 l1.s.ph, .int .i64 l1.s.fn, .int .i64 l1.s.fm.a, .int .i64 l1.s.fm.b, .int .i64 l1.s.fm.c, .int .i64 l1.s.fm.d, .int .i64 l1.s.fm.x, .int .i64 l1.s.fm.y, l1.s.cv, .bool l1.s.dk, .pointer (some ⟨l1.p, 0, none⟩)] 67))) := Lib.hid (Up.alloc (Up.refl w5) _); have q29c := (UA.out.cells.1 B 29 lt5).trans q29b)
        refine hK.out _ _ ?_ (fun hHeld => ?_)
        · exact Row.up hHeld UA.out
        clear hK K
        (try simp only [Act.put, lga, lgz, lgs, lsa, lsz, lss])
        refine wpAnyH_ready (rs := [4]) (by decide +kernel) (by simp) ?_
        refine AllReadyH.cons rfl (fun K hK => ?_) (AllReadyH.nil)
        (try simp only [lga, lgz, lgs])
        (go_simp)
        refine hK.out _ _ ?_ (fun hHeld => ?_)
        · (first | exact hHeld)
        clear hK K
        (try simp only [Act.put, lga, lgz, lgs, lsa, lsz, lss])
        refine wpAnyH_ready (rs := [8]) (by decide +kernel) (by simp) ?_
        refine AllReadyH.cons rfl (fun K hK => ?_) (AllReadyH.nil)
        (try simp only [lga, lgz, lgs])
        (rw [if_pos (by rfl)]; refine wp_append_lies _ (.tmp 36) (.tmp 39) 68 rfl 0 67 i0 _ 27 248 Tryd.underlying68 hi hz0 hz1 hz2 rfl (by decide) (.slice so2 k sc2) k (y.saved.flatMap Lv.cells) rfl (raw_up (by have h9 := HP.out.gg.own; rw [HSY.out, HP.out.n] at h9; exact h9) (HU5.out.call UA.out)) ⟨w5.heap.size, 0, none⟩ 1 1 l1.cells rfl rfl (news_at RN1 rfl) (Lv.one HO2.out.s) (by decide) (by unfold maxLen; omega) (by omega) (Nat.zero_le _) _ rfl ?_; intro g5 c5 w6 hown5 hgr5 hat5 hg5; have HC6 : Hid (Chg (own y.sv) (w5.alloc (.cells #[.int .i64 l1.s.c.a, .int .i64 l1.s.c.b, .int .i64 l1.s.c.c, .int .i64 l1.s.c.d, .int .i64 l1.s.c.x, .int .i64 l1.s.c.y, .int .i64 l1.s.sp, .int .i64 l1.s.p0, .int .i64 l1.s.p1, .int .i64 l1.s.p2, .int .i64 l1.s.p3, .int .i64 l1.s.wd, .int .i64 l1.s.cap, .int .i64 l1.s.jn, .int .i64 l1.s.mt, l1.s.dv, .int .i64 l1.s.ph, .int .i64 l1.s.fn, .int .i64 l1.s.fm.a, .int .i64 l1.s.fm.b, .int .i64 l1.s.fm.c, .int .i64 l1.s.fm.d, .int .i64 l1.s.fm.x, .int .i64 l1.s.fm.y, l1.s.cv, .bool l1.s.dk, .pointer (some ⟨l1.p, 0, none⟩)] 67)) w6) := Lib.hid (by rw [HSY.out]; exact Chg.grown (Chg.of_up (Up.refl _)) hgr5 (fun k hk => Or.inl (own_mem hk))); have HTO : Hid (To wr (w6.setCell ⟨B, 29, none⟩ (.slice (some ⟨g5, 0, none⟩) (k + 1) c5)) B y (kept y l1 g5 k c5)) := Lib.hid (To.save HP.out.gg HP.out.n HU5.out HO2.out HF2.out UA.out HC6.out hown5 (by rw [HSY.out]; exact hat5)); have RG6 : Row w6 B y.cells.toArray := ((HP.out.gg.row.up HU5.out).up UA.out).chg HC6.out (fun h2 => (List.nodup_cons.1 HP.out.gg.nd).1 (List.mem_append_right _ (List.mem_append_left _ h2))); have q29d := RG6.cell 29 rfl; have f29d := RG6.free 29; have lt6 := RG6.lt; clear hown5 hgr5 hat5)
        refine hK.out _ _ ?_ (fun hHeld => ?_)
        · exact Row.chg (hHeld) HC6.out HNB.out
        clear hK K
        (try simp only [Act.put, lga, lgz, lgs, lsa, lsz, lss])
        refine wpAnyH_take (i := 9) (v := ?_) rfl (by decide +kernel) (by decide +kernel) (by decide +kernel) (fun _ _ _ h => h) (Or.inl ⟨by rfl, ?_⟩) (by assumption) ?_
        rotate_left
        · intro w2 hSw
          (try dsimp only at hSw)
          (try (obtain ⟨hs1, hs2⟩ := hSw))
          go_simp
          (try (with_reducible rfl))
        (try simp only [Act.put, lga, lgz, lgs, lsa, lsz, lss])
        refine wpAnyH_take (i := 10) (v := ?_) rfl (by decide +kernel) (by decide +kernel) (by decide +kernel) (fun _ _ _ h => h) (Or.inl ⟨by rfl, ?_⟩) (by assumption) ?_
        rotate_left
        · intro w2 hSw
          (try dsimp only at hSw)
          (try (obtain ⟨hs1, hs2⟩ := hSw))
          go_simp
          (try (with_reducible rfl))
        (try simp only [Act.put, lga, lgz, lgs, lsa, lsz, lss])
        refine wpAnyH_ready (rs := [11]) (by decide +kernel) (by simp) ?_
        refine AllReadyH.cons rfl (fun K hK => ?_) (AllReadyH.nil)
        (try simp only [lga, lgz, lgs])
        go_simp
        refine hK.out _ _ ?_ (fun hHeld => ?_)
        · exact Row.other hHeld HBB.out _
        clear hK K
        refine wpAnyH_done (by decide +kernel) ?_ _
        go_wp2
        go_roundw
        case rel => exact ⟨k + 1, kept y l1 g5 k c5, by omega, by go_num, Lib.hid (HP.out.next HLV.out HD2.out HT2.out HTO.out)⟩
        case measure => simp [intOf]; omega

end Go.Proofs.YtoflafbhfoncmaaDoor.Gt
end

section
namespace Go.Proofs.YtoflafbhfoncmaaDoor.Gt
open Go.ChangeShapes Go.WideShapes Go.ChangeAt Go.RowKit
open Go.Proofs.YtoflafbhfoncmaaDoor.FixM (fits)
open Go.Proofs.YtoflafbhfoncmaaDoor.MatM (M6)
open Go.Proofs.YtoflafbhfoncmaaDoor.PathM (Seg St Z segCells)
open Go.Proofs.YtoflafbhfoncmaaDoor.Path (own own_mem own_of PathIs Segs)
open Go.Proofs.YtoflafbhfoncmaaDoor.Pt (Clip clipCells Src)
set_option linter.unusedVariables false
set_option linter.unusedSimpArgs false

/-- a value of the same kind; a slice is the same -/
def Kd (u v : Value) : Prop := (∀ k z, u = .int k z → ∃ y, v = .int k y) ∧ (∀ a n c, u = .slice a n c → v = u)
theorem Kd.refl (u : Value) : Kd u u := ⟨fun k z h => ⟨z, h⟩, fun _ _ _ _ => rfl⟩
theorem Kd.trans {u v x : Value} (h : Kd u v) (g : Kd v x) : Kd u x := by
  refine ⟨fun k z e => ?_, fun a n c e => ?_⟩
  · obtain ⟨y, e2⟩ := h.1 k z e; exact g.1 k y e2
  · have e2 := h.2 a n c e
    rw [g.2 a n c (e2.trans e), e2]
theorem Kd.int (k : IntKind) (z y : Int) : Kd (.int k z) (.int k y) := ⟨(fun k2 z2 e => by injection e with e1 _; exact ⟨y, by rw [e1]⟩), (fun a n c e => by cases e)⟩
/-- every cell that was there is there, of its kind -/
def Sh (w w1 : World) : Prop := ∀ (b j : Nat) (u : Value), w.cell? ⟨b, j, none⟩ = some u → ∃ v, w1.cell? ⟨b, j, none⟩ = some v ∧ Kd u v ∧ w1.frozen? ⟨b, j, none⟩ = w.frozen? ⟨b, j, none⟩
theorem Sh.refl (w : World) : Sh w w := fun b j u h => ⟨u, h, Kd.refl u, rfl⟩
theorem Sh.set {w w1 : World} (h : Sh w w1) {g i : Nat} {x y : Value} (hx : w1.cell? ⟨g, i, none⟩ = some x) (hk : Kd x y) : Sh w (w1.setCell ⟨g, i, none⟩ y) := fun b j u hu => by
  obtain ⟨v, h1, h2, h3⟩ := h b j u hu
  by_cases e : (⟨g, i, none⟩ : Addr) = ⟨b, j, none⟩
  · rw [← e] at h1 ⊢
    rw [hx] at h1
    injection h1 with h1
    subst h1
    refine ⟨y, World.cell?_setCell_same _ _ _ hx, h2.trans hk, ?_⟩
    rw [World.frozen?_setCell]
    rw [e]
    exact h3
  · exact ⟨v, by rw [World.cell?_setCell_other _ _ _ _ e]; exact h1, h2, by rw [World.frozen?_setCell]; exact h3⟩
theorem own_free {w : World} {base K : Nat} {e : TypeId} {g n c m : Nat} {xs : List Value} (h : w.ownsRow base e K (.slice (some ⟨g, 0, none⟩) n c) m xs) (j : Nat) : w.frozen? ⟨g, j, none⟩ = false := by
  rcases h.2 with ⟨h1, _⟩ | ⟨g', cap, cur, hv, _, hg, _⟩
  · cases h1
  · injection hv with e1
    injection e1 with e1
    injection e1 with e1
    subst e1
    simp [World.frozen?, hg]
theorem owned_some {w : World} {e : TypeId} {K : Nat} {v : Value} {n : Nat} {xs : List Value} (h : w.ownsRow 0 e K v n xs) (h0 : 0 < n) : ∃ g c, v = .slice (some ⟨g, 0, none⟩) n c := by
  rcases owned_form h with ⟨_, h1⟩ | ⟨g, cap, e2, _⟩
  · omega
  · exact ⟨g, cap, e2⟩
theorem cell_lt' {w : World} {b j : Nat} {u : Value} (h : w.cell? ⟨b, j, none⟩ = some u) : b < w.heap.size := World.block_lt_of_cell? w _ h
/-- a state's lists, cell by cell -/
structure Spo (w : World) (s : S) : Prop where
  d : ∀ (a : Option Addr) (n c k : Nat), s.dv = .slice a n c → k < n → ∃ g z, a = some ⟨g, 0, none⟩ ∧ w.cell? ⟨g, k, none⟩ = some (.int .i64 z) ∧ w.frozen? ⟨g, k, none⟩ = false ∧ g ∈ s.bl
  c : ∀ (a : Option Addr) (n c k : Nat), s.cv = .slice a n c → k < n → ∃ g x xn xc z, a = some ⟨g, 0, none⟩ ∧ w.cell? ⟨g, k * 2, none⟩ = some (.slice (some ⟨x, 0, none⟩) xn xc) ∧ 0 < xn ∧ w.cell? ⟨x, 1, none⟩ = some (.int .i64 z) ∧ w.frozen? ⟨x, 1, none⟩ = false ∧ x ∈ s.bl
theorem Spo.of {w : World} {s : S} (h : SO w s) (hn : ∀ c ∈ s.cl, 0 < c.l.length) : Spo w s := by
  refine ⟨fun a n c k e hk => ?_, fun a n c k e hk => ?_⟩
  · have hd := h.dv
    obtain ⟨a', c', e'⟩ := owned_val hd
    rw [e] at e'
    injection e' with e1 e2 e3
    subst e1 e2 e3
    rw [e] at hd
    obtain ⟨g, c2, e4⟩ := owned_some hd (by omega)
    injection e4 with e5 _ _
    subst e5
    have hc := hd.cells (g := g) rfl k (.int .i64 (s.ds.getD k 0)) (by rw [List.getElem?_map, List.getElem?_eq_getElem (by omega), List.getD_eq_getElem?_getD, List.getElem?_eq_getElem (by omega)]; rfl)
    rw [add_plain, Nat.zero_add] at hc
    exact ⟨g, _, rfl, hc, own_free hd _, by simp [S.bl, e, own, Value.ownBlock]⟩
  · have hc := h.cv
    obtain ⟨a', c', e'⟩ := owned_val hc
    rw [e] at e'
    injection e' with e1 e2 e3
    subst e1 e2 e3
    rw [e] at hc
    obtain ⟨g, c2, e4⟩ := owned_some hc (by omega)
    injection e4 with e5 _ _
    subst e5
    obtain ⟨q, hq⟩ : ∃ q, s.cl[k]? = some q := ⟨_, List.getElem?_eq_getElem hk⟩
    have hm := List.mem_of_getElem? hq
    have h0 := hc.cells (g := g) rfl (k * 2 + 0) _ (Pt.flat_at Pt.clip_len s.cl k q 0 _ hq rfl)
    rw [add_plain, Nat.zero_add] at h0
    have hs := h.cs q hm
    obtain ⟨x, xc, e6⟩ := owned_some hs (hn q hm)
    rw [e6] at hs h0
    obtain ⟨sg, hsg⟩ : ∃ sg, q.l[0]? = some sg := ⟨_, List.getElem?_eq_getElem (hn q hm)⟩
    have h1 := hs.cells (g := x) rfl (0 * 7 + 1) _ (PathM.segCells_at q.l 0 sg 1 hsg (by decide))
    rw [add_plain, Nat.zero_add] at h1
    exact ⟨g, x, q.l.length, xc, _, rfl, h0, hn q hm, h1, own_free hs _, by simp only [S.bl, List.mem_append, List.mem_flatMap]; exact Or.inr (Or.inr ⟨q, hm, by rw [e6]; simp [own, Value.ownBlock]⟩)⟩

/-- no clip of an empty path -/
def NE (s : SD) : Prop := ∀ c ∈ s.cl, 0 < c.1.length
structure NEd (d : GD) : Prop where
  cur : NE d.s
  svs : ∀ s ∈ d.saved, NE s.1
theorem NEd.set {d : GD} (h : NEd d) {s : SD} (hs : NE s) : NEd (d.set s) := ⟨hs, h.svs⟩
theorem callM_NE {d : GD} (h : NEd d) (v : AV) : NEd (callM v d).1 := by
  have hc := h.cur
  have h0 : ∀ s ∈ ([] : List (List Seg × Bool)), 0 < s.1.length := fun s hs => by cases hs
  refine callM_elim (P := fun r => NEd r.1) v d ?_ ?_ ?_ ?_ ?_ ?_ ?_ ?_ ?_ ?_ ?_ ?_ ?_ ?_ ?_ ?_ ?_
  · intro _
    unfold saveM
    split
    · exact h
    · refine ⟨hc, fun s hs => ?_⟩
      simp only [List.mem_append, List.mem_singleton] at hs
      rcases hs with hs | rfl
      · exact h.svs s hs
      · exact hc
  · intro _
    unfold restM
    split
    · exact h
    · rename_i s hs
      exact ⟨h.svs s (List.mem_of_getLast? hs), fun s hs => h.svs s ((List.dropLast_sublist _).subset hs)⟩
  · intro _
    unfold restAllM
    split
    · exact h
    · rename_i f r hs
      have hf := h.svs f (by rw [hs]; simp)
      exact ⟨hf, fun s hs => by simp only [List.mem_singleton] at hs; subst hs; exact hf⟩
  · intro _
    exact ⟨h0, h.svs⟩
  · intro _; (try dsimp only); unfold concatM; (repeat' split) <;> first | exact h | exact h.set hc
  · intro _; (try dsimp only); unfold setMatrixM; (repeat' split) <;> first | exact h | exact h.set hc
  · intro _; (try dsimp only); unfold setFontM; (repeat' split) <;> first | exact h | exact h.set hc
  · intro _; (try dsimp only); unfold colorM; (repeat' split) <;> first | exact h | exact h.set hc
  · intro _; (try dsimp only); unfold dashM; (repeat' split) <;> first | exact h | exact h.set hc
  · intro _; (try dsimp only); unfold setWidthM; (repeat' split) <;> first | exact h | exact h.set hc
  · intro _; (try dsimp only); unfold setCapM; (repeat' split) <;> first | exact h | exact h.set hc
  · intro _; (try dsimp only); unfold setJoinM; (repeat' split) <;> first | exact h | exact h.set hc
  · intro _; (try dsimp only); unfold setMiterM; (repeat' split) <;> first | exact h | exact h.set hc
  · intro _
    unfold clipM
    split
    · exact h
    · split
      · exact h.set hc
      · rename_i h1 h2
        refine h.set (fun c hcm => ?_)
        have hcm2 : c ∈ d.s.cl ++ [(d.t.l, (v.N.tmod 2 == 0))] := hcm
        simp only [List.mem_append, List.mem_singleton] at hcm2
        rcases hcm2 with h3 | rfl
        · exact hc c h3
        · exact List.length_pos_iff.2 (by intro h4; simp_all)
  · intro _
    exact h.set h0
  · intro _
    exact ⟨hc, h.svs⟩
  · exact h

/-- states that began after w: what the first loop keeps -/
structure A1 (w wr : World) (g : Nat) (x : X) (k : Nat) : Prop where
  up : Up w wr
  gg : G wr g x
  new : ∀ b ∈ x.bl g, w.heap.size ≤ b
  v : V x.dat k
  ne : NEd x.dat
theorem A1.to {w w1 w2 : World} {g : Nat} {x y : X} {k : Nat} {v : AV} (h : A1 w w1 g x k) (ht : To w1 w2 g x y) (hd : y.dat = (callM v x.dat).1) : A1 w w2 g y (k + 1) := by
  obtain ⟨a1, a2⟩ := To.after h.up h.new ht
  exact ⟨a1, ht.1, a2, by rw [hd]; exact callM_V h.v v, by rw [hd]; exact callM_NE h.ne v⟩
theorem A1.skip {w w1 : World} {g : Nat} {x : X} {k : Nat} (h : A1 w w1 g x k) : A1 w w1 g x (k + 1) := ⟨h.up, h.gg, h.new, h.v.to (by omega), h.ne⟩

/-- k acts, one behind the other -/
def runM (l : List AV) : Nat → GD → GD
  | 0, d => d
  | k + 1, d => match l[k]? with
    | some v => if v.len ≤ 100 then (callM v (runM l k d)).1 else runM l k d
    | none => runM l k d
theorem runM_call {l : List AV} {k : Nat} {d : GD} {v : AV} (hv : l[k]? = some v) (hl : v.len ≤ 100) : runM l (k + 1) d = (callM v (runM l k d)).1 := by
  show (match l[k]? with | some v => if v.len ≤ 100 then (callM v (runM l k d)).1 else runM l k d | none => runM l k d) = _
  rw [hv]
  exact if_pos hl
theorem runM_skip {l : List AV} {k : Nat} {d : GD} {v : AV} (hv : l[k]? = some v) (hl : ¬ v.len ≤ 100) : runM l (k + 1) d = runM l k d := by
  show (match l[k]? with | some v => if v.len ≤ 100 then (callM v (runM l k d)).1 else runM l k d | none => runM l k d) = _
  rw [hv]
  exact if_neg hl

/-- all that lies there when the copies are made: the states, their two copies, the state and the path as they were -/
structure Fx (w wr : World) (g c d : Nat) (x y z : X) (sB : S) (b7 : Nat) (v8 : Value) : Prop where
  up : Up w wr
  gx : G wr g x
  gy : G wr c y
  gz : G wr d z
  so : SO wr sB
  r7 : Row wr b7 sB.cells.toArray
  sg : Segs wr v8 x.l.t.l
  dis : ∀ b ∈ y.bl c, b ∉ x.bl g ∧ b ∉ z.bl d ∧ b ∉ sB.bl ∧ b ≠ b7 ∧ v8.ownBlock ≠ some b ∧ w.heap.size ≤ b
  diz : ∀ b ∈ z.bl d, w.heap.size ≤ b
theorem Fx.chg {w wr w2 : World} {g c d : Nat} {x y z : X} {sB : S} {b7 : Nat} {v8 : Value} {B : List Nat} (h : Fx w wr g c d x y z sB b7 v8) (hc : Chg B wr w2) (h1 : ∀ b ∈ B, b ∉ x.bl g ∧ b ∉ y.bl c ∧ b ∉ z.bl d ∧ b ∉ sB.bl ∧ b ≠ b7 ∧ v8.ownBlock ≠ some b ∧ w.heap.size ≤ b) : Fx w w2 g c d x y z sB b7 v8 :=
  ⟨((Chg.of_up (S := []) h.up).call hc (fun b hb => Or.inr (h1 b hb).2.2.2.2.2.2)).up, h.gx.chg hc (fun b hb h2 => (h1 b h2).1 hb), h.gy.chg hc (fun b hb h2 => (h1 b h2).2.1 hb), h.gz.chg hc (fun b hb h2 => (h1 b h2).2.2.1 hb), h.so.chg hc (fun b hb h2 => (h1 b h2).2.2.2.1 hb), h.r7.chg hc (fun h2 => (h1 b7 h2).2.2.2.2.1 rfl), h.sg.chg hc (fun b hb h2 => (h1 b h2).2.2.2.2.2.1 hb), h.dis, h.diz⟩
theorem Fx.upp {w wr w2 : World} {g c d : Nat} {x y z : X} {sB : S} {b7 : Nat} {v8 : Value} (h : Fx w wr g c d x y z sB b7 v8) (hu : Up wr w2) : Fx w w2 g c d x y z sB b7 v8 := h.chg (Chg.of_up (S := []) hu) (fun b hb => by cases hb)
theorem Fx.call {w wr w2 : World} {g c d : Nat} {x y z y2 : X} {sB : S} {b7 : Nat} {v8 : Value} (h : Fx w wr g c d x y z sB b7 v8) (ht : To wr w2 c y y2) : Fx w w2 g c d x y2 z sB b7 v8 := by
  have hc := ht.2.1
  have hs : ∀ g, v8.ownBlock = some g → g < wr.heap.size := fun g hg => (h.sg.lt g hg).2
  refine ⟨((Chg.of_up (S := []) h.up).call hc (fun b hb => Or.inr (h.dis b hb).2.2.2.2.2)).up, h.gx.chg hc (fun b hb h2 => (h.dis b h2).1 hb), ht.1, h.gz.chg hc (fun b hb h2 => (h.dis b h2).2.1 hb), h.so.chg hc (fun b hb h2 => (h.dis b h2).2.2.1 hb), h.r7.chg hc (fun h2 => (h.dis b7 h2).2.2.2.1 rfl), h.sg.chg hc (fun b hb h2 => (h.dis b h2).2.2.2.2.1 hb), fun b hb => ?_, h.diz⟩
  rcases ht.2.2 b hb with h1 | h1
  · exact h.dis b h1
  · have z1 := h.up.size
    have z2 := h.r7.lt
    exact ⟨fun h2 => by have := h.gx.lt b h2; omega, fun h2 => by have := h.gz.lt b h2; omega, fun h2 => by have := h.so.lt b h2; omega, by omega, fun h2 => by have := hs b h2; omega, by omega⟩
/-- the two copies behind the first one's acts -/
structure Fy (w wr : World) (c d : Nat) (y z : X) : Prop where
  up : Up w wr
  gy : G wr c y
  gz : G wr d z
  dis : ∀ b ∈ z.bl d, b ∉ y.bl c ∧ w.heap.size ≤ b
theorem Fx.y {w wr : World} {g c d : Nat} {x y z : X} {sB : S} {b7 : Nat} {v8 : Value} (h : Fx w wr g c d x y z sB b7 v8) : Fy w wr c d y z :=
  ⟨h.up, h.gy, h.gz, fun b hb => ⟨fun h2 => (h.dis b h2).2.1 hb, h.diz b hb⟩⟩
theorem Fy.upp {w wr w2 : World} {c d : Nat} {y z : X} (h : Fy w wr c d y z) (hu : Up wr w2) : Fy w w2 c d y z := ⟨h.up.call hu, h.gy.up hu, h.gz.up hu, h.dis⟩
theorem Fy.call {w wr w2 : World} {c d : Nat} {y z z2 : X} (h : Fy w wr c d y z) (ht : To wr w2 d z z2) : Fy w w2 c d y z2 := by
  refine ⟨((Chg.of_up (S := []) h.up).call ht.2.1 (fun b hb => Or.inr (h.dis b hb).2)).up, h.gy.chg ht.2.1 (fun b hb h2 => (h.dis b h2).1 hb), ht.1, fun b hb => ?_⟩
  rcases ht.2.2 b hb with h1 | h1
  · exact h.dis b h1
  · have := h.up.size
    exact ⟨fun h2 => by have := h.gy.lt b h2; omega, by omega⟩
/-- the copy says what the states say -/
theorem Cp.same {w wr : World} {g : Nat} {x y : X} (h : Cp w wr g x y x.saved.length) : y.dat = x.dat := by
  rw [h.dat]
  have e : x.dat.saved.take x.saved.length = x.dat.saved := List.take_of_length_le (by simp [X.dat])
  rw [e]

end Go.Proofs.YtoflafbhfoncmaaDoor.Gt
end

section
namespace Go.Proofs.YtoflafbhfoncmaaDoor.Gt
open List renaming getElem_toArray → lga, getElem_cons_zero → lgz, getElem_cons_succ → lgs, setIfInBounds_toArray → lsa, set_cons_zero → lsz, set_cons_succ → lss
open Go.ChangeShapes Go.WideShapes Go.ChangeAt Go.RowKit
open Go.Proofs.YtoflafbhfoncmaaDoor.FixM (fits)
open Go.Proofs.YtoflafbhfoncmaaDoor.MatM (M6)
open Go.Proofs.YtoflafbhfoncmaaDoor.PathM (Seg St Z segCells)
open Go.Proofs.YtoflafbhfoncmaaDoor.Path (own own_mem own_of PathIs Segs)
open Go.Proofs.YtoflafbhfoncmaaDoor.Pt (Clip clipCells Src)
set_option linter.unusedVariables false
set_option linter.unusedSimpArgs false

set_option maxRecDepth 8000 in
set_option maxHeartbeats 16000000 in
theorem apart {w : World} (a0 : Option Addr) (n0 c0 : Nat) (l0 : List AV) (a1 : Option Addr) (n1 c1 : Nat) (l1 : List AV) (g0 : Acts w a0 n0 c0 l0) (g1 : Acts w a1 n1 c1 l1) (hT : Font.Tab w) :
    Calls Tryd.prog 4 #[.slice a0 n0 c0, .slice a1 n1 c1] w fun e w' => e = .returned (.bool true) ∧ Up w w' := by
  have HS0 := Lib.hid g0.1
  have HO0 := Lib.hid g0.2
  have HS1 := Lib.hid g1.1
  have HO1 := Lib.hid g1.2
  have HT := Lib.hid hT
  have hcap0 : n0 ≤ c0 := HS0.out.1
  have hcap1 : n1 ≤ c1 := HS1.out.1
  have hbig0 : c0 ≤ 9223372036854775807 := HS0.out.2.1
  have hbig1 : c1 ≤ 9223372036854775807 := HS1.out.2.1
  clear g0 g1 hT
  go_enter Tryd.func4, Tryd.ntmps4
  go_upto_block 0 with (first
    | (go_at_call 6; ((with_reducible refine (gnew_X 5 30 _).mono ?_); rintro E w1 ⟨g, x0, rfl, hg1, hd1, hn1, hu1⟩; have HA1 := Lib.hid (show A1 w w1 g x0 0 from ⟨hu1, hg1, hn1, by rw [hd1]; exact ⟨start_ok _ _ _, (fun s hs => by cases hs), Nat.le_refl _⟩, by rw [hd1]; exact ⟨(fun c hc => by cases hc), (fun s hs => by cases hs)⟩⟩); clear hg1 hd1 hn1 hu1))
    | (go_at_call 7; ((with_reducible refine (Gs.answers_calls _).mono ?_); rintro E w2 ⟨rfl, hu2⟩; have HA2 := Lib.hid (show A1 w w2 g x0 0 from ⟨HA1.out.up.call hu2, HA1.out.gg.up hu2, HA1.out.new, HA1.out.v, HA1.out.ne⟩); clear hu2)))
  go_cut [6] from 23 to 45 (fun s6 wx => ∃ (k : Nat) (x : X), k ≤ 40 ∧ Hid (A1 w wx g x k))
  case first =>
    go_wp2_with fail
    go_loopw [6] (fun i wr => ∃ (k : Nat) (x : X), k ≤ 40 ∧ k ≤ n0 ∧ i = .int .i64 k ∧ Hid (A1 w wr g x k)) (fun i _ => 40 - (intOf i).toNat)
    case atStart => exact ⟨0, x0, by omega, by omega, rfl, HA2⟩
    case round =>
      obtain ⟨k, x, hk, hkn, rfl, hA⟩ := hrel
      by_cases h1 : k < n0
      rotate_left
      · have t1 : decide (k < n0) = false := decide_eq_false h1
        go_wp2
        go_meet
        case rel => exact ⟨k, x, hk, hA⟩
      by_cases h2 : k < 40
      rotate_left
      · go_wp2
        go_meet
        case rel => exact ⟨k, x, hk, hA⟩
      · skip
        obtain ⟨b0, o0, rfl, hb0, hc0⟩ := HS0.out.2.2.2.2 (by omega)
        obtain ⟨v, hv⟩ : ∃ v, l0[k]? = some v := ⟨_, List.getElem?_eq_getElem (by have := HS0.out.2.2.1; omega)⟩
        have hok := HO0.out v (List.mem_of_getElem? hv)
        have hrg := act_cells hb0 hc0 hA.out.up hv
        obtain ⟨D, N, m, av, lv, cv, zs, px, py⟩ := v
        have HOK := Lib.hid hok
        have q0 : wr.cell? ⟨b0, o0 + k * 11, none⟩ = some (.int .i64 D) := hrg 0 _ rfl
        have q8 : wr.cell? ⟨b0, o0 + k * 11 + 8, none⟩ = some (.slice av lv cv) := hrg 8 _ rfl
        have HRG : Hid (wr.rangeAt b0 (o0 + k * 11) [.int .i64 D, .int .i64 N, .int .i64 m.a, .int .i64 m.b, .int .i64 m.c, .int .i64 m.d, .int .i64 m.x, .int .i64 m.y, .slice av lv cv, .int .i64 px, .int .i64 py]) := Lib.hid hrg
        have HV := Lib.hid hv
        clear hok hrg hb0 hc0 hv
        by_cases h100 : lv ≤ 100
        rotate_left
        · have t1 : decide ((lv : Int) ≤ 100) = false := decide_eq_false (by omega)
          go_wp2
          go_roundw
          case rel => exact ⟨k + 1, x, by omega, by omega, by go_num, Lib.hid hA.out.skip⟩
          case measure => simp [intOf]; omega
        have t1 : decide ((lv : Int) ≤ 100) = true := decide_eq_true (by omega)
        go_wp2_with (first
          | ((refine at_op (.load 31 (.tmp 43)) rfl ?_); refine wpList_load_mid rfl 31 (.tmp 43) rfl b0 (o0 + k * 11) (by first | rfl | simp) [.int .i64 D, .int .i64 N, .int .i64 m.a, .int .i64 m.b, .int .i64 m.c, .int .i64 m.d, .int .i64 m.x, .int .i64 m.y, .slice av lv cv, .int .i64 px, .int .i64 py] _ HRG.out Tryd.underlying31 rfl (by exact infoAct) ?_)
          | (go_at_call 8; ((with_reducible refine (call_Xc g x D N m av lv cv zs px py k _ _ hA.out.gg hA.out.v (by omega) (tab_up HT.out hA.out.up) (HOK.out.up hA.out.up) h100 rfl).mono ?_); rintro E w3 ⟨rfl, y, h8, h9⟩; have HA3 := Lib.hid (hA.out.to h8 h9); clear h8 h9)))
        go_roundw
        case rel => exact ⟨k + 1, y, by omega, by omega, by go_num, HA3⟩
        case measure => simp [intOf]; omega
  case rest =>
    obtain ⟨k, x, hk, hA⟩ := hcut
    obtain ⟨wa, hwa⟩ : ∃ w', w' = wc := ⟨wc, rfl⟩
    subst hwa
    have HGG := Lib.hid hA.out.gg
    have HLE := Lib.hid (show Le x.l.s.dat from hA.out.v.cur.le)
    have HIV := Lib.hid (hA.out.v.inv (show k ≤ 1000 by omega))
    have HUA := Lib.hid (Up.refl wa)
    go_upto_block 2 with (first
      | (go_at_call 9; ((with_reducible refine (now_X g x wa HGG.out HLE.out).mono ?_); rintro E w3 ⟨sB, rfl, hsd, hso, hsn, hu⟩; obtain ⟨CB, hC⟩ : ∃ C, sB.cells.toArray = C := ⟨_, rfl⟩; rw [hC]; have HCCB := Lib.hid hC; have HCSB : CB.size = 26 := (by rw [← hC]; rfl); have HCOB : CB.all (·.oneCell') = true := (by rw [← hC]; exact all_oneCell_toArray (S.one hso)); have HSDB := Lib.hid hsd; have HSOB := Lib.hid hso; have HSNB := Lib.hid hsn; have HUnB := Lib.hid hu; have HUB := Lib.hid (HUA.out.call hu); clear hC hsd hso hsn hu))
      | ((refine at_op (.store 41 (.tmp 7) _) rfl ?_); (refine wpList_store_Row rfl 41 (.tmp 7) _ rfl w3.heap.size CB rfl rfl #[.int .i64 0, .int .i64 0, .int .i64 0, .int .i64 0, .int .i64 0, .int .i64 0, .int .i64 0, .int .i64 0, .int .i64 0, .int .i64 0, .int .i64 0, .int .i64 0, .int .i64 0, .int .i64 0, .int .i64 0, .slice none 0 0, .int .i64 0, .int .i64 0, .int .i64 0, .int .i64 0, .int .i64 0, .int .i64 0, .int .i64 0, .int .i64 0, .slice none 0 0, .bool false] (by (repeat' (with_reducible first | assumption | (refine Row.at _ _ ?_; (simp; done)) | refine Row.alloc ?_ _ | refine Row.drew ?_ | refine Row.drewN ?_ _ | refine Row.other ?_ (by first | (simp; done) | (simp; omega) | omega) _ | refine Row.up ?_ (by assumption) | refine Row.chg ?_ (by assumption) (by first | (simp; done) | (simp; omega))))) Gs.infoSt HCSB rfl HCOB ?_); intro w4 hr4 hc4; have HRB := Lib.hid hr4; have HUsB := Lib.hid (show Up w3 w4 from ((Chg.of_up (S := []) (Up.alloc (Up.refl w3) _)).call hc4 (fun b hb => Or.inr (by rw [List.mem_singleton] at hb; subst hb; exact Nat.le_refl _))).up); have HUbB := Lib.hid (HUB.out.call HUsB.out); clear hr4 hc4)
      | (go_at_call 10; ((with_reducible refine (path_X g x _ (HGG.out.up HUbB.out)).mono ?_); rintro E w90 ⟨rfl, rfl⟩))
      | (go_at_call 11; ((with_reducible refine (Path.segments_calls x.l.p x.l.pv x.l.t _ (HGG.out.cur.p.up HUbB.out)).mono ?_); rintro E w5 ⟨v8, rfl, hs8, hu5, ho8⟩; have HS8 := Lib.hid hs8; have HO8 := Lib.hid ho8; have HU45 := Lib.hid hu5; have HU5 := Lib.hid (HUbB.out.call hu5); have _tk5 := True.intro; clear hs8 hu5 ho8))
      | (go_at_call 17; ((with_reducible refine (copy_X g x w5 (HGG.out.up HU5.out) HIV.out).mono ?_); rintro E w6 ⟨c, y, rfl, hcy⟩; have HCY := Lib.hid hcy; have HU6 := Lib.hid (HU5.out.call hcy.up); clear hcy))
      | (go_at_call 17; ((with_reducible refine (copy_X g x w6 (HGG.out.up HU6.out) HIV.out).mono ?_); rintro E w7 ⟨d, z, rfl, hcz⟩; have HCZ := Lib.hid hcz; have HU7 := Lib.hid (HU6.out.call hcz.up); clear hcz))
      | (go_at_call 9; ((with_reducible refine (now_X g x w7 (HGG.out.up HU7.out) HLE.out).mono ?_); rintro E w8 ⟨sS, rfl, hsd, hso, hsn, hu⟩; obtain ⟨CS, hC⟩ : ∃ C, sS.cells.toArray = C := ⟨_, rfl⟩; rw [hC]; have HCCS := Lib.hid hC; have HCSS : CS.size = 26 := (by rw [← hC]; rfl); have HCOS : CS.all (·.oneCell') = true := (by rw [← hC]; exact all_oneCell_toArray (S.one hso)); have HSDS := Lib.hid hsd; have HSOS := Lib.hid hso; have HSNS := Lib.hid hsn; have HUnS := Lib.hid hu; have HUS := Lib.hid (HU7.out.call hu); clear hC hsd hso hsn hu))
      | ((refine at_op (.store 41 (.tmp 11) _) rfl ?_); (refine wpList_store_Row rfl 41 (.tmp 11) _ rfl w8.heap.size CS rfl rfl #[.int .i64 0, .int .i64 0, .int .i64 0, .int .i64 0, .int .i64 0, .int .i64 0, .int .i64 0, .int .i64 0, .int .i64 0, .int .i64 0, .int .i64 0, .int .i64 0, .int .i64 0, .int .i64 0, .int .i64 0, .slice none 0 0, .int .i64 0, .int .i64 0, .int .i64 0, .int .i64 0, .int .i64 0, .int .i64 0, .int .i64 0, .int .i64 0, .slice none 0 0, .bool false] (by (repeat' (with_reducible first | assumption | (refine Row.at _ _ ?_; (simp; done)) | refine Row.alloc ?_ _ | refine Row.drew ?_ | refine Row.drewN ?_ _ | refine Row.other ?_ (by first | (simp; done) | (simp; omega) | omega) _ | refine Row.up ?_ (by assumption) | refine Row.chg ?_ (by assumption) (by first | (simp; done) | (simp; omega))))) Gs.infoSt HCSS rfl HCOS ?_); intro w9 hr4 hc4; have HRS := Lib.hid hr4; have HUsS := Lib.hid (show Up w8 w9 from ((Chg.of_up (S := []) (Up.alloc (Up.refl w8) _)).call hc4 (fun b hb => Or.inr (by rw [List.mem_singleton] at hb; subst hb; exact Nat.le_refl _))).up); have HUbS := Lib.hid (HUS.out.call HUsS.out); clear hr4 hc4))
    have HUW := Lib.hid (hA.out.up.call HUbS.out)
    have HNW := Lib.hid hA.out.new
    have HV8 : Hid (∀ b, v8.ownBlock = some b → w4.heap.size ≤ b ∧ b < w5.heap.size) := Lib.hid (fun b hb => ⟨HO8.out b hb, (HS8.out.lt b hb).2⟩)
    have HZZ : Hid (wa.heap.size ≤ w3.heap.size ∧ w3.heap.size < w4.heap.size ∧ w4.heap.size ≤ w5.heap.size ∧ w5.heap.size ≤ w6.heap.size ∧ w6.heap.size ≤ w7.heap.size ∧ w7.heap.size ≤ w8.heap.size ∧ w8.heap.size < w9.heap.size ∧ w.heap.size ≤ wa.heap.size) := Lib.hid ⟨HUnB.out.size, HRB.out.lt, HU45.out.size, HCY.out.up.size, HCZ.out.up.size, HUnS.out.size, HRS.out.lt, hA.out.up.size⟩
    have HFX : Hid (Fx w w9 g c d x y z sB w3.heap.size v8) := Lib.hid (by
      obtain ⟨z1, z2, z3, z4, z5, z6, z7, z8⟩ := HZZ.out
      have u47 : Up w4 w9 := ((HU45.out.call HCY.out.up).call HCZ.out.up).call (HUnS.out.call HUsS.out)
      have u57 : Up w5 w9 := (HCY.out.up.call HCZ.out.up).call (HUnS.out.call HUsS.out)
      have u67 : Up w6 w9 := HCZ.out.up.call (HUnS.out.call HUsS.out)
      refine ⟨HUW.out, HGG.out.up HUbS.out, HCY.out.gg.up u67, HCZ.out.gg.up (HUnS.out.call HUsS.out), (HSOB.out.up HUsB.out).up u47, (by rw [HCCB.out]; exact HRB.out.up u47), HS8.out.chg (S := []) (Chg.of_up u57) (by simp), fun b hb => ?_, fun b hb => ?_⟩
      · have h1 := HCY.out.new b hb
        have h2 := HCY.out.gg.lt b hb
        exact ⟨fun h3 => by have := HGG.out.lt b h3; omega, fun h3 => by have := HCZ.out.new b h3; omega, fun h3 => by have := (HSNB.out b h3).2; omega, by omega, fun h3 => by have := (HV8.out b h3).2; omega, by omega⟩
      · have h1 := HCZ.out.new b hb
        omega)
    have HDY := Lib.hid (show y.dat = x.dat from HCY.out.same)
    have HDZ := Lib.hid (show z.dat = x.dat from HCZ.out.same)
    have HVX := Lib.hid (show V x.dat 40 from hA.out.v.to hk)
    have HSP := Lib.hid (Spo.of (HSOS.out.up HUsS.out) (by
      intro q hq
      have h1 := hA.out.ne.cur
      have h2 : x.dat.s = sS.dat := HSDS.out.symm
      rw [h2] at h1
      exact h1 (q.l, q.eo) (List.mem_map.2 ⟨q, hq, rfl⟩)))
    have HDIS : Hid (∀ b ∈ sS.bl, b ∉ x.bl g ∧ b ∉ y.bl c ∧ b ∉ z.bl d ∧ b ∉ sB.bl ∧ b ≠ w3.heap.size ∧ v8.ownBlock ≠ some b ∧ w.heap.size ≤ b) := Lib.hid (fun b hb => by
      obtain ⟨z1, z2, z3, z4, z5, z6, z7, z8⟩ := HZZ.out
      have h1 := (HSNS.out b hb).1
      exact ⟨fun h3 => by have := HGG.out.lt b h3; omega, fun h3 => by have := HCY.out.gg.lt b h3; omega, fun h3 => by have := HCZ.out.gg.lt b h3; omega, fun h3 => by have := (HSNB.out b h3).2; omega, by omega, fun h3 => by have := (HV8.out b h3).2; omega, by omega⟩)
    obtain ⟨⟨ca, cl, cc, hcv⟩, ⟨da, dl, dc, hdv⟩⟩ : (∃ a n c, sS.cv = .slice a n c) ∧ (∃ a n c, sS.dv = .slice a n c) := ⟨(by obtain ⟨a, c, e⟩ := owned_val HSOS.out.cv; exact ⟨a, _, c, e⟩), (by obtain ⟨a, c, e⟩ := owned_val HSOS.out.dv; exact ⟨a, _, c, e⟩)⟩
    have HNB : Hid (w8.heap.size ∉ sS.bl) := Lib.hid (fun h2 => by have := (HSNS.out _ h2).2; omega)
    have HPC : Hid (∀ k, k < cl → ∃ g x xn xc z, ca = some ⟨g, 0, none⟩ ∧ w9.cell? ⟨g, k * 2, none⟩ = some (.slice (some ⟨x, 0, none⟩) xn xc) ∧ 0 < xn ∧ w9.cell? ⟨x, 1, none⟩ = some (.int .i64 z) ∧ w9.frozen? ⟨x, 1, none⟩ = false ∧ x ∈ sS.bl) := Lib.hid (fun k hk => HSP.out.c ca cl cc k hcv hk)
    have HPD : Hid (∀ k, k < dl → ∃ g z, da = some ⟨g, 0, none⟩ ∧ w9.cell? ⟨g, k, none⟩ = some (.int .i64 z) ∧ w9.frozen? ⟨g, k, none⟩ = false ∧ g ∈ sS.bl) := Lib.hid (fun k hk => HSP.out.d da dl dc k hdv hk)
    have HC24 : Hid (CS[24]? = some (.slice ca cl cc)) := Lib.hid (by rw [← HCCS.out, ← hcv]; rfl)
    have HC15 : Hid (CS[15]? = some (.slice da dl dc)) := Lib.hid (by rw [← HCCS.out, ← hdv]; rfl)
    have HSH := Lib.hid (Sh.refl w9)
    have HCR := Lib.hid (Chg.refl sS.bl w9)
    have lclc : cl ≤ cc ∧ cc ≤ 9223372036854775807 := by
      have h1 := HSOS.out.cv
      rw [hcv] at h1
      rcases owned_form h1 with ⟨e, e2⟩ | ⟨q, cap, e, h2, h3, _⟩
      · injection e with _ e3 e4; omega
      · injection e with _ e3 e4; subst e4; unfold maxLen at h3; omega
    have ldlc : dl ≤ dc ∧ dc ≤ 9223372036854775807 := by
      have h1 := HSOS.out.dv
      rw [hdv] at h1
      rcases owned_form h1 with ⟨e, e2⟩ | ⟨q, cap, e, h2, h3, _⟩
      · injection e with _ e3 e4; omega
      · injection e with _ e3 e4; subst e4; unfold maxLen at h3; omega
    obtain ⟨lc1, lc2⟩ := lclc
    obtain ⟨ld1, ld2⟩ := ldlc
    have HCV := Lib.hid hcv
    have HDV := Lib.hid hdv
    clear hcv hdv hA hk
    go_cut [12] from 57 to 73 (fun s12 wx => Hid (Sh w9 wx) ∧ Hid (Chg sS.bl w9 wx))
    case first =>
      go_wp2_with fail
      go_loopw [12] (fun i wr => ∃ k : Nat, k ≤ cl ∧ i = .int .i64 k ∧ Hid (Sh w9 wr) ∧ Hid (Chg sS.bl w9 wr)) (fun i _ => cl - (intOf i).toNat)
      case atStart => exact ⟨0, Nat.zero_le _, rfl, HSH, HCR⟩
      case round =>
        clear HSH HCR
        obtain ⟨q, hq, rfl, HSH, HCR⟩ := hrel
        have HR9 := Lib.hid (HRS.out.chg HCR.out HNB.out)
        have lb := HR9.out.lt
        have x24 := HR9.out.cell 24 HC24.out
        by_cases hlt : q < cl
        rotate_left
        · have t1 : decide ((q : Int) < (cl : Int)) = false := decide_eq_false (by omega)
          go_wp2
          go_meet
          case rel => exact ⟨HSH, HCR⟩
        have t1 : decide ((q : Int) < (cl : Int)) = true := decide_eq_true (by omega)
        obtain ⟨gg, xx, xn, xc, zz, rfl, p1, p2, p3, p4, p5⟩ := HPC.out q hlt
        obtain ⟨v1, e1, f1, _⟩ := HSH.out gg _ _ p1
        obtain rfl := f1.2 _ _ _ rfl
        obtain ⟨v2, e2, f2, f3⟩ := HSH.out xx _ _ p3
        obtain ⟨y2, rfl⟩ := f2.1 _ _ rfl
        rw [p4] at f3
        have lx := cell_lt' e2
        have HE2 := Lib.hid e2
        have HM5 := Lib.hid p5
        clear p1 p3 p4 p5 f1 f2
        go_wp2
        go_roundw
        case rel => exact ⟨q + 1, by omega, by go_num, Lib.hid (HSH.out.set HE2.out (Kd.int _ _ _)), Lib.hid (HCR.out.setCell (Or.inl HM5.out) _)⟩
        case measure => simp [intOf]; omega
    case rest =>
      obtain ⟨HSH1, HCR1⟩ := hcut
      clear HSH HCR
      go_upto_block 4 with fail
      go_cut [13] from 74 to 86 (fun s13 wx => Hid (Chg sS.bl w9 wx))
      case first =>
        go_wp2_with fail
        go_loopw [13] (fun i wr => ∃ k : Nat, k ≤ dl ∧ i = .int .i64 k ∧ Hid (Sh w9 wr) ∧ Hid (Chg sS.bl w9 wr)) (fun i _ => dl - (intOf i).toNat)
        case atStart => exact ⟨0, Nat.zero_le _, rfl, HSH1, HCR1⟩
        case round =>
          clear HSH1 HCR1
          obtain ⟨q, hq, rfl, HSH, HCR⟩ := hrel
          have HR9 := Lib.hid (HRS.out.chg HCR.out HNB.out)
          have lb := HR9.out.lt
          have x15 := HR9.out.cell 15 HC15.out
          by_cases hlt : q < dl
          rotate_left
          · have t1 : decide ((q : Int) < (dl : Int)) = false := decide_eq_false (by omega)
            go_wp2
            go_meet
            case rel => exact HCR
          have t1 : decide ((q : Int) < (dl : Int)) = true := decide_eq_true (by omega)
          obtain ⟨gg, zz, rfl, p3, p4, p5⟩ := HPD.out q hlt
          obtain ⟨v2, e2, f2, f3⟩ := HSH.out gg _ _ p3
          obtain ⟨y2, rfl⟩ := f2.1 _ _ rfl
          rw [p4] at f3
          have lx := cell_lt' e2
          have HE2 := Lib.hid e2
          have HM5 := Lib.hid p5
          clear p3 p4 p5 f2
          go_wp2
          go_roundw
          case rel => exact ⟨q + 1, by omega, by go_num, Lib.hid (HSH.out.set HE2.out (Kd.int _ _ _)), Lib.hid (HCR.out.setCell (Or.inl HM5.out) _)⟩
          case measure => simp [intOf]; omega
      case rest =>
        have HF0 := Lib.hid (HFX.out.chg hcut.out HDIS.out)
        have HV0 := Lib.hid (show V y.dat (40 + 0) from by rw [HDY.out]; exact HVX.out)
        have HR0 := Lib.hid (show y.dat = runM l1 0 x.dat from HDY.out)
        obtain ⟨wb, hwb⟩ : ∃ w', w' = wc := ⟨wc, rfl⟩
        subst hwb
        clear HSH1 HCR1 hcut HPC HPD HC24 HC15 HDIS HSP
        go_upto_block 6 with fail
        go_cut [14] from 87 to 109 (fun s14 wx => ∃ (k : Nat) (y2 : X), k = min n1 40 ∧ Hid (Fx w wx g c d x y2 z sB w3.heap.size v8) ∧ Hid (V y2.dat (40 + k)) ∧ Hid (y2.dat = runM l1 k x.dat))
        case first =>
          go_wp2_with fail
          go_loopw [14] (fun i wr => ∃ (k : Nat) (y2 : X), k ≤ 40 ∧ k ≤ n1 ∧ i = .int .i64 k ∧ Hid (Fx w wr g c d x y2 z sB w3.heap.size v8) ∧ Hid (V y2.dat (40 + k)) ∧ Hid (y2.dat = runM l1 k x.dat)) (fun i _ => 40 - (intOf i).toNat)
          case atStart => exact ⟨0, y, by omega, by omega, rfl, HF0, HV0, HR0⟩
          case round =>
            clear HF0 HV0 HR0 HFX
            obtain ⟨k, y2, hk, hkn, rfl, HF, HV, HRN⟩ := hrel
            by_cases h1 : k < n1
            rotate_left
            · have t1 : decide (k < n1) = false := decide_eq_false h1
              go_wp2
              go_meet
              case rel => exact ⟨k, y2, by omega, HF, HV, HRN⟩
            by_cases h2 : k < 40
            rotate_left
            · go_wp2
              go_meet
              case rel => exact ⟨k, y2, by omega, HF, HV, HRN⟩
            obtain ⟨b0, o0, rfl, hb0, hc0⟩ := HS1.out.2.2.2.2 (by omega)
            obtain ⟨v, hv⟩ : ∃ v, l1[k]? = some v := ⟨_, List.getElem?_eq_getElem (by have := HS1.out.2.2.1; omega)⟩
            have hok := HO1.out v (List.mem_of_getElem? hv)
            have hrg := act_cells hb0 hc0 HF.out.up hv
            obtain ⟨D, N, m, av, lv, cv, zs, px, py⟩ := v
            have HOK := Lib.hid hok
            have q0 : wr.cell? ⟨b0, o0 + k * 11, none⟩ = some (.int .i64 D) := hrg 0 _ rfl
            have q8 : wr.cell? ⟨b0, o0 + k * 11 + 8, none⟩ = some (.slice av lv cv) := hrg 8 _ rfl
            have HRG : Hid (wr.rangeAt b0 (o0 + k * 11) [.int .i64 D, .int .i64 N, .int .i64 m.a, .int .i64 m.b, .int .i64 m.c, .int .i64 m.d, .int .i64 m.x, .int .i64 m.y, .slice av lv cv, .int .i64 px, .int .i64 py]) := Lib.hid hrg
            have HVV := Lib.hid hv
            clear hok hrg hb0 hc0 hv
            by_cases h100 : lv ≤ 100
            rotate_left
            · have t1 : decide ((lv : Int) ≤ 100) = false := decide_eq_false (by omega)
              have HSK := Lib.hid (runM_skip (d := x.dat) HVV.out h100)
              clear h100
              go_wp2
              go_roundw
              case rel => exact ⟨k + 1, y2, by omega, by omega, by go_num, HF, Lib.hid (HV.out.to (by omega)), Lib.hid (HRN.out.trans HSK.out.symm)⟩
              case measure => simp [intOf]; omega
            have t1 : decide ((lv : Int) ≤ 100) = true := decide_eq_true (by omega)
            have HSK := Lib.hid (runM_call (d := x.dat) HVV.out h100)
            go_wp2_with (first
              | ((refine at_op (.load 31 (.tmp 107)) rfl ?_); refine wpList_load_mid rfl 31 (.tmp 107) rfl b0 (o0 + k * 11) (by first | rfl | simp) [.int .i64 D, .int .i64 N, .int .i64 m.a, .int .i64 m.b, .int .i64 m.c, .int .i64 m.d, .int .i64 m.x, .int .i64 m.y, .slice av lv cv, .int .i64 px, .int .i64 py] _ HRG.out Tryd.underlying31 rfl (by exact infoAct) ?_)
              | (go_at_call 8; ((with_reducible refine (call_Xc c y2 D N m av lv cv zs px py (40 + k) _ _ HF.out.gy HV.out (by omega) (tab_up HT.out HF.out.up) (HOK.out.up HF.out.up) h100 rfl).mono ?_); rintro E w10 ⟨rfl, y3, h8, h9⟩; have HF3 := Lib.hid (HF.out.call h8); have HV3 := Lib.hid (show V y3.dat (40 + k + 1) from by rw [h9]; exact callM_V HV.out _); have HRN3 := Lib.hid (show y3.dat = runM l1 (k + 1) x.dat from by rw [h9, HSK.out, HRN.out]); clear h8 h9)))
            go_roundw
            case rel => exact ⟨k + 1, y3, by omega, by omega, by go_num, HF3, HV3, HRN3⟩
            case measure => simp [intOf]; omega
        case rest =>
          clear HF0 HV0 HR0 HFX
          obtain ⟨k1, y2, hk1, HF, HV, HRN⟩ := hcut
          have HK1 := Lib.hid hk1
          have hk40 : k1 ≤ 40 := by omega
          clear hk1
          go_upto_region 27 with fail
          obtain ⟨wr, hwr⟩ : ∃ w', w' = wc := ⟨wc, rfl⟩
          subst hwr
          have HGZ := Lib.hid HF.out.gx
          have HR9 : Hid (Row wr w3.heap.size CB) := Lib.hid (by rw [← HCCB.out]; exact HF.out.r7)
          have HSO9 := Lib.hid HF.out.so
          have HS9 := Lib.hid HF.out.sg
          have HUD : Hid (Up wr wr.drew) := Lib.hid (Up.drew (Up.refl wr))
          refine wp_region_held_drew (S := fun w' => Row w' w3.heap.size CB) (by kernel_rfl) ?_ (fun hHeld => ?_)
          · exact (by first | exact HR9.out | exact Row.drew HR9.out)
          refine wpAnyH_take (i := 0) (v := ?_) rfl (by decide +kernel) (by decide +kernel) (by decide +kernel) (fun _ _ _ h => h) (Or.inl ⟨by rfl, ?_⟩) (by assumption) ?_
          rotate_left
          · intro w2 hSw
            (try dsimp only at hSw)
            (try (obtain ⟨hs1, hs2⟩ := hSw))
            go_simp
            (try (with_reducible rfl))
          (try simp only [Act.put, lga, lgz, lgs, lsa, lsz, lss])
          refine wpAnyH_take (i := 2) rfl (by decide +kernel) (by decide +kernel) (by decide +kernel) (fun _ _ _ h => h) (yieldsIf_load_mid (by rfl) 41 (.tmp 7) rfl w3.heap.size 0 rfl CB.toList _ (fun _ h => Pt.rng0 h) Tryd.underlying41 rfl (by rw [Array.length_toList, HCSB]; exact Gs.infoSt)) (by assumption) ?_
          (try simp only [Act.put, lga, lgz, lgs, lsa, lsz, lss])
          (try simp only [Array.toArray_toList])
          refine wpAnyH_ready (rs := [1]) (by decide +kernel) (by simp) ?_
          refine AllReadyH.cons rfl (fun K hK => ?_) (AllReadyH.nil)
          (try simp only [lga, lgz, lgs])
          (go_simp; go_at_call 9; ((with_reducible refine (now_X g x _ (HGZ.out.up HUD.out) HLE.out).mono ?_); rintro E w10 ⟨sE, rfl, hsd, hso, hsn, hu10⟩; obtain ⟨KE, hKE⟩ : ∃ C, sE.cells.toArray = C := ⟨_, rfl⟩; rw [hKE]; have HKK := Lib.hid hKE; have HSE := Lib.hid hsd; have HOE := Lib.hid hso; have HU10d := Lib.hid hu10; have HU10 := Lib.hid (HUD.out.call hu10); clear hKE hsd hso hsn hu10); (try dsimp only))
          refine hK.out _ _ ?_ (fun hHeld => ?_)
          · exact Row.up hHeld HU10d.out
          clear hK K
          (try simp only [Act.put, lga, lgz, lgs, lsa, lsz, lss])
          refine wpAnyH_ready (rs := [3]) (by decide +kernel) (by simp) ?_
          refine AllReadyH.cons rfl (fun K hK => ?_) (AllReadyH.nil)
          (try simp only [lga, lgz, lgs])
          (go_simp; go_at_call 15; ((with_reducible rw [← HKK.out, ← HCCB.out]); (with_reducible refine (alike_S sE sB _ HOE.out (HSO9.out.up HU10.out) (HSE.out.trans HSDB.out.symm) (by have h2 := HLE.out.d; rw [← HSE.out] at h2; exact Nat.le_trans h2 (by decide))).mono ?_); rintro E w11 ⟨rfl, hu11⟩; have HU11d := Lib.hid hu11; have HU11 := Lib.hid (HU10.out.call hu11); clear hu11); (try dsimp only))
          refine hK.out _ _ ?_ (fun hHeld => ?_)
          · exact Row.up hHeld HU11d.out
          clear hK K
          (try simp only [Act.put, lga, lgz, lgs, lsa, lsz, lss])
          refine wpAnyH_take (i := 4) (v := ?_) rfl (by decide +kernel) (by decide +kernel) (by decide +kernel) (fun _ _ _ h => h) (Or.inl ⟨by rfl, ?_⟩) (by assumption) ?_
          rotate_left
          · intro w2 hSw
            (try dsimp only at hSw)
            (try (obtain ⟨hs1, hs2⟩ := hSw))
            go_simp
            (try (with_reducible rfl))
          (try simp only [Act.put, lga, lgz, lgs, lsa, lsz, lss])
          refine wpAnyH_take (i := 5) (v := ?_) rfl (by decide +kernel) (by decide +kernel) (by decide +kernel) (fun _ _ _ h => h) (Or.inl ⟨by rfl, ?_⟩) (by assumption) ?_
          rotate_left
          · intro w2 hSw
            (try dsimp only at hSw)
            (try (obtain ⟨hs1, hs2⟩ := hSw))
            go_simp
            (try (with_reducible rfl))
          (try simp only [Act.put, lga, lgz, lgs, lsa, lsz, lss])
          refine wpAnyH_take (i := 6) (v := ?_) rfl (by decide +kernel) (by decide +kernel) (by decide +kernel) (fun _ _ _ h => h) (Or.inl ⟨by rfl, ?_⟩) (by assumption) ?_
          rotate_left
          · intro w2 hSw
            (try dsimp only at hSw)
            (try (obtain ⟨hs1, hs2⟩ := hSw))
            go_simp
            (try (with_reducible rfl))
          (try simp only [Act.put, lga, lgz, lgs, lsa, lsz, lss])
          refine wpAnyH_take (i := 9) (v := ?_) rfl (by decide +kernel) (by decide +kernel) (by decide +kernel) (fun _ _ _ h => h) (Or.inl ⟨by rfl, ?_⟩) (by assumption) ?_
          rotate_left
          · intro w2 hSw
            (try dsimp only at hSw)
            (try (obtain ⟨hs1, hs2⟩ := hSw))
            go_simp
            (try (with_reducible rfl))
          (try simp only [Act.put, lga, lgz, lgs, lsa, lsz, lss])
          refine wpAnyH_ready (rs := [7]) (by decide +kernel) (by simp) ?_
          refine AllReadyH.cons rfl (fun K hK => ?_) (AllReadyH.nil)
          (try simp only [lga, lgz, lgs])
          (go_simp; go_at_call 10; ((with_reducible refine (path_X g x _ (HGZ.out.up HU11.out)).mono ?_); rintro E w90 ⟨rfl, rfl⟩); (try dsimp only))
          refine hK.out _ _ ?_ (fun hHeld => ?_)
          · exact hHeld
          clear hK K
          (try simp only [Act.put, lga, lgz, lgs, lsa, lsz, lss])
          refine wpAnyH_ready (rs := [8]) (by decide +kernel) (by simp) ?_
          refine AllReadyH.cons rfl (fun K hK => ?_) (AllReadyH.nil)
          (try simp only [lga, lgz, lgs])
          (go_simp; go_at_call 11; ((with_reducible refine (Path.segments_calls x.l.p x.l.pv x.l.t _ (HGZ.out.cur.p.up HU11.out)).mono ?_); rintro E w12 ⟨v9, rfl, hs9, hu12, ho9⟩; have HSS := Lib.hid hs9; have HU12d := Lib.hid hu12; have HU12 := Lib.hid (HU11.out.call hu12); clear hs9 hu12 ho9); (try dsimp only))
          refine hK.out _ _ ?_ (fun hHeld => ?_)
          · exact Row.up hHeld HU12d.out
          clear hK K
          (try simp only [Act.put, lga, lgz, lgs, lsa, lsz, lss])
          refine wpAnyH_ready (rs := [10]) (by decide +kernel) (by simp) ?_
          refine AllReadyH.cons rfl (fun K hK => ?_) (AllReadyH.nil)
          (try simp only [lga, lgz, lgs])
          (go_simp; go_at_call 16; ((with_reducible refine (Path.same_calls v9 v8 x.l.t.l x.l.t.l _ HSS.out.v ((HS9.out.chg (S := []) (Chg.of_up HU12.out) (by simp)).v)).mono ?_); rw [decide_eq_true (rfl : x.l.t.l = x.l.t.l)]; rintro E w13 ⟨rfl, hu13⟩; have HU13d := Lib.hid hu13; have HU13 := Lib.hid (HU12.out.call hu13); clear hu13); (try dsimp only))
          refine hK.out _ _ ?_ (fun hHeld => ?_)
          · exact Row.up hHeld HU13d.out
          clear hK K
          (try simp only [Act.put, lga, lgz, lgs, lsa, lsz, lss])
          refine wpAnyH_take (i := 11) (v := ?_) rfl (by decide +kernel) (by decide +kernel) (by decide +kernel) (fun _ _ _ h => h) (Or.inl ⟨by rfl, ?_⟩) (by assumption) ?_
          rotate_left
          · intro w2 hSw
            (try dsimp only at hSw)
            (try (obtain ⟨hs1, hs2⟩ := hSw))
            go_simp
            (try (with_reducible rfl))
          (try simp only [Act.put, lga, lgz, lgs, lsa, lsz, lss])
          refine wpAnyH_take (i := 12) (v := ?_) rfl (by decide +kernel) (by decide +kernel) (by decide +kernel) (fun _ _ _ h => h) (Or.inl ⟨by rfl, ?_⟩) (by assumption) ?_
          rotate_left
          · intro w2 hSw
            (try dsimp only at hSw)
            (try (obtain ⟨hs1, hs2⟩ := hSw))
            go_simp
            (try (with_reducible rfl))
          (try simp only [Act.put, lga, lgz, lgs, lsa, lsz, lss])
          refine wpAnyH_done (by decide +kernel) ?_ _
          clear hHeld
          have HF2 := Lib.hid (HF.out.upp HU13.out)
          have HFy := Lib.hid HF2.out.y
          have HV0 := Lib.hid (show V z.dat (40 + 0) from by rw [HDZ.out]; exact HVX.out)
          have HR0 := Lib.hid (show z.dat = runM l1 0 x.dat from HDZ.out)
          obtain ⟨wf, hwf⟩ : ∃ w', w' = w13 := ⟨w13, rfl⟩
          subst hwf
          go_upto_block 8 with fail
          go_cut [15] from 123 to 145 (fun s15 wx => ∃ (k : Nat) (z2 : X), k = min n1 40 ∧ Hid (Fy w wx c d y2 z2) ∧ Hid (V z2.dat (40 + k)) ∧ Hid (z2.dat = runM l1 k x.dat))
          case first =>
            go_wp2_with fail
            go_loopw [15] (fun i wr => ∃ (k : Nat) (z2 : X), k ≤ 40 ∧ k ≤ n1 ∧ i = .int .i64 k ∧ Hid (Fy w wr c d y2 z2) ∧ Hid (V z2.dat (40 + k)) ∧ Hid (z2.dat = runM l1 k x.dat)) (fun i _ => 40 - (intOf i).toNat)
            case atStart => exact ⟨0, z, by omega, by omega, rfl, HFy, HV0, HR0⟩
            case round =>
              clear HFy HV0 HR0 HF HF2 HV
              obtain ⟨k, z2, hk, hkn, rfl, HF, HV, HRN⟩ := hrel
              by_cases h1 : k < n1
              rotate_left
              · have t1 : decide (k < n1) = false := decide_eq_false h1
                go_wp2
                go_meet
                case rel => exact ⟨k, z2, by omega, HF, HV, HRN⟩
              by_cases h2 : k < 40
              rotate_left
              · go_wp2
                go_meet
                case rel => exact ⟨k, z2, by omega, HF, HV, HRN⟩
              obtain ⟨b0, o0, rfl, hb0, hc0⟩ := HS1.out.2.2.2.2 (by omega)
              obtain ⟨v, hv⟩ : ∃ v, l1[k]? = some v := ⟨_, List.getElem?_eq_getElem (by have := HS1.out.2.2.1; omega)⟩
              have hok := HO1.out v (List.mem_of_getElem? hv)
              have hrg := act_cells hb0 hc0 HF.out.up hv
              obtain ⟨D, N, m, av, lv, cv, zs, px, py⟩ := v
              have HOK := Lib.hid hok
              have q0 : wr.cell? ⟨b0, o0 + k * 11, none⟩ = some (.int .i64 D) := hrg 0 _ rfl
              have q8 : wr.cell? ⟨b0, o0 + k * 11 + 8, none⟩ = some (.slice av lv cv) := hrg 8 _ rfl
              have HRG : Hid (wr.rangeAt b0 (o0 + k * 11) [.int .i64 D, .int .i64 N, .int .i64 m.a, .int .i64 m.b, .int .i64 m.c, .int .i64 m.d, .int .i64 m.x, .int .i64 m.y, .slice av lv cv, .int .i64 px, .int .i64 py]) := Lib.hid hrg
              have HVV := Lib.hid hv
              clear hok hrg hb0 hc0 hv
              by_cases h100 : lv ≤ 100
              rotate_left
              · have t1 : decide ((lv : Int) ≤ 100) = false := decide_eq_false (by omega)
                have HSK := Lib.hid (runM_skip (d := x.dat) HVV.out h100)
                clear h100
                go_wp2
                go_roundw
                case rel => exact ⟨k + 1, z2, by omega, by omega, by go_num, HF, Lib.hid (HV.out.to (by omega)), Lib.hid (HRN.out.trans HSK.out.symm)⟩
                case measure => simp [intOf]; omega
              have t1 : decide ((lv : Int) ≤ 100) = true := decide_eq_true (by omega)
              have HSK := Lib.hid (runM_call (d := x.dat) HVV.out h100)
              go_wp2_with (first
                | ((refine at_op (.load 31 (.tmp 143)) rfl ?_); refine wpList_load_mid rfl 31 (.tmp 143) rfl b0 (o0 + k * 11) (by first | rfl | simp) [.int .i64 D, .int .i64 N, .int .i64 m.a, .int .i64 m.b, .int .i64 m.c, .int .i64 m.d, .int .i64 m.x, .int .i64 m.y, .slice av lv cv, .int .i64 px, .int .i64 py] _ HRG.out Tryd.underlying31 rfl (by exact infoAct) ?_)
                | (go_at_call 8; ((with_reducible refine (call_Xc d z2 D N m av lv cv zs px py (40 + k) _ _ HF.out.gz HV.out (by omega) (tab_up HT.out HF.out.up) (HOK.out.up HF.out.up) h100 rfl).mono ?_); rintro E w20 ⟨rfl, y3, h8, h9⟩; have HF3 := Lib.hid (HF.out.call h8); have HV3 := Lib.hid (show V y3.dat (40 + k + 1) from by rw [h9]; exact callM_V HV.out _); have HRN3 := Lib.hid (show y3.dat = runM l1 (k + 1) x.dat from by rw [h9, HSK.out, HRN.out]); clear h8 h9)))
              go_roundw
              case rel => exact ⟨k + 1, y3, by omega, by omega, by go_num, HF3, HV3, HRN3⟩
              case measure => simp [intOf]; omega
          case rest =>
            obtain ⟨k2, z2, hk2, HFz, HVz, HRz⟩ := hcut
            have HEQ := Lib.hid (show y2.dat = z2.dat from by rw [HRN.out, HRz.out, HK1.out, hk2])
            have hk402 : k2 ≤ 40 := by omega
            have HLY := Lib.hid (show Le y2.l.s.dat from HV.out.cur.le)
            have HLZ := Lib.hid (show Le z2.l.s.dat from HVz.out.cur.le)
            have HES := Lib.hid (show y2.l.s.dat = z2.l.s.dat from congrArg GD.s HEQ.out)
            have HET := Lib.hid (show y2.l.t = z2.l.t from congrArg GD.t HEQ.out)
            obtain ⟨nd, hnd⟩ : ∃ n, y2.dat.saved.length = n := ⟨_, rfl⟩
            have HN1 := Lib.hid hnd
            have HN2 := Lib.hid (show z2.dat.saved.length = nd from by rw [← HEQ.out]; exact hnd)
            have HGY := Lib.hid HFz.out.gy
            have HGZ2 := Lib.hid HFz.out.gz
            have HUQ := Lib.hid HFz.out.up
            have HUC := Lib.hid (Up.refl wc)
            clear hk2 hnd hk402 HF HF2 HFy HV0 HR0
            go_wp2_with (first
              | (go_at_call 9; ((with_reducible refine (now_X c y2 _ HGY.out HLY.out).mono ?_); rintro E w21 ⟨sY, rfl, hsd, hso, hsn, hu⟩; obtain ⟨CY, hC⟩ : ∃ C, sY.cells.toArray = C := ⟨_, rfl⟩; rw [hC]; have HCCY := Lib.hid hC; have HCSY : CY.size = 26 := (by rw [← hC]; rfl); have HCOY : CY.all (·.oneCell') = true := (by rw [← hC]; exact all_oneCell_toArray (S.one hso)); have HSDY := Lib.hid hsd; have HSOY := Lib.hid hso; have HSNY := Lib.hid hsn; have HUnY := Lib.hid hu; have HUY := Lib.hid (HUC.out.call hu); clear hC hsd hso hsn hu))
              | (go_at_call 9; ((with_reducible refine (now_X d z2 _ (HGZ2.out.up HUY.out) HLZ.out).mono ?_); rintro E w22 ⟨sZ, rfl, hsd, hso, hsn, hu⟩; obtain ⟨CZ, hC⟩ : ∃ C, sZ.cells.toArray = C := ⟨_, rfl⟩; rw [hC]; have HCCZ := Lib.hid hC; have HCSZ : CZ.size = 26 := (by rw [← hC]; rfl); have HCOZ : CZ.all (·.oneCell') = true := (by rw [← hC]; exact all_oneCell_toArray (S.one hso)); have HSDZ := Lib.hid hsd; have HSOZ := Lib.hid hso; have HSNZ := Lib.hid hsn; have HUnZ := Lib.hid hu; have HUZ := Lib.hid (HUY.out.call hu); clear hC hsd hso hsn hu))
              | (go_at_call 15; ((with_reducible rw [← HCCY.out, ← HCCZ.out]); (with_reducible refine (alike_S sY sZ _ (HSOY.out.up HUnZ.out) HSOZ.out (HSDY.out.trans (HES.out.trans HSDZ.out.symm)) (by have h2 := HLY.out.d; rw [← HSDY.out] at h2; exact Nat.le_trans h2 (by decide))).mono ?_); rintro E w23 ⟨rfl, hu⟩; have HU23 := Lib.hid (HUZ.out.call hu); clear hu))
              | (go_at_call 12; ((with_reducible refine (depth_X c y2 nd HN1.out _ (HGY.out.up HU23.out)).mono ?_); rintro E w91 ⟨rfl, rfl⟩))
              | (go_at_call 12; ((with_reducible refine (depth_X d z2 nd HN2.out _ (HGZ2.out.up HU23.out)).mono ?_); rintro E w91 ⟨rfl, rfl⟩))
              | (go_at_call 10; ((with_reducible refine (path_X c y2 _ (HGY.out.up HU23.out)).mono ?_); rintro E w90 ⟨rfl, rfl⟩))
              | (go_at_call 11; ((with_reducible refine (Path.segments_calls y2.l.p y2.l.pv y2.l.t _ (HGY.out.cur.p.up HU23.out)).mono ?_); rintro E w24 ⟨v24, rfl, hs9, hu, ho9⟩; have HS24 := Lib.hid hs9; have HU24 := Lib.hid (HU23.out.call hu); clear hs9 hu ho9))
              | (go_at_call 10; ((with_reducible refine (path_X d z2 _ (HGZ2.out.up HU24.out)).mono ?_); rintro E w90 ⟨rfl, rfl⟩))
              | (go_at_call 11; ((with_reducible refine (Path.segments_calls z2.l.p z2.l.pv z2.l.t _ (HGZ2.out.cur.p.up HU24.out)).mono ?_); rintro E w25 ⟨v25, rfl, hs9, hu, ho9⟩; have HS25 := Lib.hid hs9; have HU25d := Lib.hid hu; have HU25 := Lib.hid (HU24.out.call hu); clear hs9 hu ho9))
              | (go_at_call 16; ((with_reducible refine (Path.same_calls v24 v25 y2.l.t.l z2.l.t.l _ ((HS24.out.chg (S := []) (Chg.of_up HU25d.out) (by simp)).v) HS25.out.v).mono ?_); rw [decide_eq_true (by rw [HET.out] : y2.l.t.l = z2.l.t.l)]; rintro E w26 ⟨rfl, hu⟩; have HU26 := Lib.hid (HU25.out.call hu); clear hu)))
            go_ret
            exact ⟨rfl, HUQ.out.call HU26.out⟩

end Go.Proofs.YtoflafbhfoncmaaDoor.Gt
end
