/- The reference's comparisons of what is the same: bytes, ints, clips, pens, colours. No condition. -/
import Derived.Test.YteddlahklilncaaDoorGPa9
import Derived.Test.YteddlahklilncaaDoorPathS
import Derived.Test.YteddlahklilncaaDoorEq6
import Derived.Test.YteddlahklilncaaDoorEqS
import Derived.BigQuiet
import Derived.Deep.RegionHeld3
namespace Go.Proofs.YteddlahklilncaaDoor.Pt
open Go.ChangeShapes Go.WideShapes Go.ChangeAt Go.RowKit
open Go.Proofs.YteddlahklilncaaDoor.FixM (fits)
open Go.Proofs.YteddlahklilncaaDoor.PathM (Seg sound)
open Go.Proofs.YteddlahklilncaaDoor.MatM (M6)
set_option linter.unusedVariables false
set_option linter.unusedSimpArgs false

theorem ints_at {k : IntKind} {w : World} {a : Option Addr} {N c : Nat} {zs : List Int} (h : Ints k w (.slice a N c) zs) (hN : zs.length = N) (h0 : 0 < N) : ∃ g o, a = some ⟨g, o, none⟩ ∧ g < w.heap.size ∧ ∀ i, i < N → w.cell? ⟨g, o + i, none⟩ = some (.int k (zs.getD i 0)) := by
  obtain ⟨ao, c', e, hl, hm, hno, h1, hw⟩ := h
  injection e with e1 e2 e3
  subst e1 e3
  obtain ⟨g, o, h2, h3, h4⟩ := h1 (by omega)
  exact ⟨g, o, h2, h3, fun i hi => h4 i (by omega)⟩

theorem sameB_nil (a1 a2 : Option Addr) (c1 c2 : Nat) (w : World) : Calls Tryd.prog 31 #[.slice a1 0 c1, .slice a2 0 c2] w fun E w' => E = .returned (.bool true) ∧ Up w w' := by
  go_enter Tryd.func31, Tryd.ntmps31
  go_wp2
  go_loop [5] (fun s5 => s5 = .int .i64 0) (fun _ => 0)
  case atStart => rfl
  case round =>
    obtain rfl := hrel
    go_wp2
    go_ret
    exact ⟨rfl, by (repeat' (first | (with_reducible first | exact Up.refl _ | assumption | refine Up.alloc ?_ _ | refine Up.drew ?_ | refine Up.drewN ?_ _ | refine Up.setCell ?_ ?_ _ | refine Up.call ?_ (by assumption)) | go_size))⟩
theorem sameB_calls (a1 a2 : Option Addr) (N c1 c2 : Nat) (zs : List Int) (w : World) (hN : zs.length = N) (hl : N ≤ 1000000000) (h1 : Ints .u8 w (.slice a1 N c1) zs) (h2 : Ints .u8 w (.slice a2 N c2) zs) :
    Calls Tryd.prog 31 #[.slice a1 N c1, .slice a2 N c2] w fun E w' => E = .returned (.bool true) ∧ Up w w' := by
  by_cases h0 : 0 < N
  rotate_left
  · obtain rfl : N = 0 := by omega
    exact sameB_nil a1 a2 c1 c2 w
  obtain ⟨g1, o1, rfl, hg1, hc1⟩ := ints_at h1 hN h0
  obtain ⟨g2, o2, rfl, hg2, hc2⟩ := ints_at h2 hN h0
  have HC1 := Lib.hid hc1
  have HC2 := Lib.hid hc2
  clear h1 h2 hc1 hc2 h0 hN
  go_enter Tryd.func31, Tryd.ntmps31
  go_wp2
  go_loopw [5] (fun i wr => ∃ k : Nat, k ≤ N ∧ i = .int .i64 k ∧ Up w wr) (fun i _ => N - (intOf i).toNat)
  case atStart => exact ⟨0, Nat.zero_le _, rfl, Up.refl _⟩
  case round =>
    obtain ⟨k, hk, rfl, hup⟩ := hrel
    by_cases hlt : k < N
    · obtain ⟨x, hx⟩ : ∃ x, zs.getD k 0 = x := ⟨_, rfl⟩
      have hq1 := (hup.cells.1 g1 (o1 + k) hg1).trans (HC1.out k hlt)
      have hq2 := (hup.cells.1 g2 (o2 + k) hg2).trans (HC2.out k hlt)
      rw [hx] at hq1 hq2
      clear hx
      have hz := hup.size
      go_wp2
      go_quiet (fail)
      go_wp2
      go_roundw
      case rel => exact ⟨k + 1, by omega, by go_num, by (repeat' (first | (with_reducible first | exact Up.refl _ | assumption | refine Up.alloc ?_ _ | refine Up.drew ?_ | refine Up.drewN ?_ _ | refine Up.setCell ?_ ?_ _ | refine Up.call ?_ (by assumption)) | go_size))⟩
      case measure => simp [intOf]; omega
    · obtain rfl : k = N := by omega
      go_wp2
      go_ret
      exact ⟨rfl, by (repeat' (first | (with_reducible first | exact Up.refl _ | assumption | refine Up.alloc ?_ _ | refine Up.drew ?_ | refine Up.drewN ?_ _ | refine Up.setCell ?_ ?_ _ | refine Up.call ?_ (by assumption)) | go_size))⟩

theorem sameI_nil (a1 a2 : Option Addr) (c1 c2 : Nat) (w : World) : Calls Tryd.prog 40 #[.slice a1 0 c1, .slice a2 0 c2] w fun E w' => E = .returned (.bool true) ∧ Up w w' := by
  go_enter Tryd.func40, Tryd.ntmps40
  go_wp2
  go_loop [5] (fun s5 => s5 = .int .i64 0) (fun _ => 0)
  case atStart => rfl
  case round =>
    obtain rfl := hrel
    go_wp2
    go_ret
    exact ⟨rfl, by (repeat' (first | (with_reducible first | exact Up.refl _ | assumption | refine Up.alloc ?_ _ | refine Up.drew ?_ | refine Up.drewN ?_ _ | refine Up.setCell ?_ ?_ _ | refine Up.call ?_ (by assumption)) | go_size))⟩
theorem sameI_calls (a1 a2 : Option Addr) (N c1 c2 : Nat) (zs : List Int) (w : World) (hN : zs.length = N) (hl : N ≤ 1000000000) (h1 : Ints .i64 w (.slice a1 N c1) zs) (h2 : Ints .i64 w (.slice a2 N c2) zs) :
    Calls Tryd.prog 40 #[.slice a1 N c1, .slice a2 N c2] w fun E w' => E = .returned (.bool true) ∧ Up w w' := by
  by_cases h0 : 0 < N
  rotate_left
  · obtain rfl : N = 0 := by omega
    exact sameI_nil a1 a2 c1 c2 w
  obtain ⟨g1, o1, rfl, hg1, hc1⟩ := ints_at h1 hN h0
  obtain ⟨g2, o2, rfl, hg2, hc2⟩ := ints_at h2 hN h0
  have HC1 := Lib.hid hc1
  have HC2 := Lib.hid hc2
  clear h1 h2 hc1 hc2 h0 hN
  go_enter Tryd.func40, Tryd.ntmps40
  go_wp2
  go_loopw [5] (fun i wr => ∃ k : Nat, k ≤ N ∧ i = .int .i64 k ∧ Up w wr) (fun i _ => N - (intOf i).toNat)
  case atStart => exact ⟨0, Nat.zero_le _, rfl, Up.refl _⟩
  case round =>
    obtain ⟨k, hk, rfl, hup⟩ := hrel
    by_cases hlt : k < N
    · obtain ⟨x, hx⟩ : ∃ x, zs.getD k 0 = x := ⟨_, rfl⟩
      have hq1 := (hup.cells.1 g1 (o1 + k) hg1).trans (HC1.out k hlt)
      have hq2 := (hup.cells.1 g2 (o2 + k) hg2).trans (HC2.out k hlt)
      rw [hx] at hq1 hq2
      clear hx
      have hz := hup.size
      go_wp2
      go_quiet (fail)
      go_wp2
      go_roundw
      case rel => exact ⟨k + 1, by omega, by go_num, by (repeat' (first | (with_reducible first | exact Up.refl _ | assumption | refine Up.alloc ?_ _ | refine Up.drew ?_ | refine Up.drewN ?_ _ | refine Up.setCell ?_ ?_ _ | refine Up.call ?_ (by assumption)) | go_size))⟩
      case measure => simp [intOf]; omega
    · obtain rfl : k = N := by omega
      go_wp2
      go_ret
      exact ⟨rfl, by (repeat' (first | (with_reducible first | exact Up.refl _ | assumption | refine Up.alloc ?_ _ | refine Up.drew ?_ | refine Up.drewN ?_ _ | refine Up.setCell ?_ ?_ _ | refine Up.call ?_ (by assumption)) | go_size))⟩

theorem colF : (Tryd.prog.fieldsOf 28).toList.map (fun f => (f.name != "_", f.offset, f.type)) = [(true, 0, 3), (true, 1, 26)] := by kernel_rfl
theorem colU : Tryd.prog.underlying 28 = some (.struct (Tryd.prog.fieldsOf 28)) := by kernel_rfl
theorem colH : Tryd.prog.stoodInHeld 28 = false := by kernel_rfl
theorem colI : (Tryd.prog.info? 26).isSome = true := by kernel_rfl
theorem colC : Tryd.prog.cellsOf 26 = 4 := by kernel_rfl
theorem eq_col (sp p0 p1 p2 p3 : Int) (w : World) : (Op.equalIn 10000 28 (.agg #[.int .i64 sp, .int .i64 p0, .int .i64 p1, .int .i64 p2, .int .i64 p3]) (.agg #[.int .i64 sp, .int .i64 p0, .int .i64 p1, .int .i64 p2, .int .i64 p3])).run Tryd.prog w = .ok true w := by
  obtain ⟨i, hi⟩ := Option.isSome_iff_exists.1 infoInt
  obtain ⟨i', hi'⟩ := Option.isSome_iff_exists.1 colI
  have arr : (Op.equalIn 9999 26 (.agg #[.int .i64 p0, .int .i64 p1, .int .i64 p2, .int .i64 p3]) (.agg #[.int .i64 p0, .int .i64 p1, .int .i64 p2, .int .i64 p3])).run Tryd.prog w = .ok true w := by
    rw [show (9999 : Nat) = 9998 + 1 from rfl, run_equalIn_array (w := w) 9998 _ _ Tryd.underlying26 hi, cellsInt, show List.range 4 = [0, 1, 2, 3] from rfl]
    rw [item_of (j := 0) (run_part_plain w eqsInt rfl) (run_part_plain w eqsInt rfl) (run_equalIn_int w 9997 _ _ .i64 p0 p0 Tryd.underlying3)]
    rw [item_of (j := 1) (run_part_plain w eqsInt rfl) (run_part_plain w eqsInt rfl) (run_equalIn_int w 9997 _ _ .i64 p1 p1 Tryd.underlying3)]
    rw [item_of (j := 2) (run_part_plain w eqsInt rfl) (run_part_plain w eqsInt rfl) (run_equalIn_int w 9997 _ _ .i64 p2 p2 Tryd.underlying3)]
    rw [item_of (j := 3) (run_part_plain w eqsInt rfl) (run_part_plain w eqsInt rfl) (run_equalIn_int w 9997 _ _ .i64 p3 p3 Tryd.underlying3)]
    simp only [Op.eqItems, Sem.run_pure, beq_self_eq_true, cond_true]
  have pt : ∀ (s a b c d : Value), (part 26 #[s, a, b, c, d] 1).run Tryd.prog w = .ok (.agg #[a, b, c, d]) w := fun s a b c d => by
    rw [run_part_agg Tryd.underlying26 rfl hi', colC]
    rfl
  rw [show (10000 : Nat) = 9999 + 1 from rfl, run_equalIn_struct w 9999 _ _ _ colU colH, eqFields_rows, colF]
  rw [row_of (run_part_plain w eqsInt rfl) (run_part_plain w eqsInt rfl) (run_equalIn_int w 9998 _ _ .i64 sp sp Tryd.underlying3)]
  rw [row_of (pt _ _ _ _ _) (pt _ _ _ _ _) arr]
  simp only [eqRows, Sem.run_pure, beq_self_eq_true, cond_true]

theorem segV_slice {w : World} {v : Value} {l : List Seg} (h : Path.SegV w v l) : ∃ a c, v = .slice a l.length c := by
  rcases h with ⟨a, cap, rfl, rfl⟩ | ⟨b, o, cap, rfl, _⟩
  · exact ⟨a, cap, rfl⟩
  · exact ⟨_, cap, rfl⟩
theorem sameC_nil (a1 a2 : Option Addr) (c1 c2 : Nat) (w : World) : Calls Tryd.prog 30 #[.slice a1 0 c1, .slice a2 0 c2] w fun E w' => E = .returned (.bool true) ∧ Up w w' := by
  go_enter Tryd.func30, Tryd.ntmps30
  go_wp2
  go_loop [5] (fun s5 => s5 = .int .i64 0) (fun _ => 0)
  case atStart => rfl
  case round =>
    obtain rfl := hrel
    go_wp2
    go_ret
    exact ⟨rfl, by (repeat' (first | (with_reducible first | exact Up.refl _ | assumption | refine Up.alloc ?_ _ | refine Up.drew ?_ | refine Up.drewN ?_ _ | refine Up.setCell ?_ ?_ _ | refine Up.call ?_ (by assumption)) | go_size))⟩
set_option maxRecDepth 8000 in
set_option maxHeartbeats 2000000 in
theorem sameC_calls (a1 a2 : Option Addr) (N c1 c2 : Nat) (l1 l2 : List Clip) (w : World) (h1 : Sl 2 Clip.cells w a1 N c1 l1) (h2 : Sl 2 Clip.cells w a2 N c2 l2) (s1 : ∀ c ∈ l1, Path.SegV w c.v c.l) (s2 : ∀ c ∈ l2, Path.SegV w c.v c.l) (he : l1.map (fun c => (c.l, c.eo)) = l2.map (fun c => (c.l, c.eo))) :
    Calls Tryd.prog 30 #[.slice a1 N c1, .slice a2 N c2] w fun E w' => E = .returned (.bool true) ∧ Up w w' := by
  by_cases h0 : 0 < N
  rotate_left
  · obtain rfl : N = 0 := by omega
    exact sameC_nil a1 a2 c1 c2 w
  have hn1 := h1.2.2.1
  have hn2 := h2.2.2.1
  have hmx := h1.2.1
  have hmx0 := h1.1
  obtain ⟨g1, o1, rfl, hg1, hc1⟩ := h1.2.2.2.2 h0
  obtain ⟨g2, o2, rfl, hg2, hc2⟩ := h2.2.2.2.2 h0
  have HC1 := Lib.hid hc1
  have HC2 := Lib.hid hc2
  have HS1 := Lib.hid s1
  have HS2 := Lib.hid s2
  have HE := Lib.hid he
  have HN1 := Lib.hid hn1
  have HN2 := Lib.hid hn2
  clear h1 h2 hc1 hc2 s1 s2 he hn1 hn2
  have hl : N ≤ 9223372036854775807 := by omega
  go_enter Tryd.func30, Tryd.ntmps30
  go_wp2
  go_loopw [5] (fun i wr => ∃ k : Nat, k ≤ N ∧ i = .int .i64 k ∧ Up w wr) (fun i _ => N - (intOf i).toNat)
  case atStart => exact ⟨0, Nat.zero_le _, rfl, Up.refl _⟩
  case round =>
    obtain ⟨k, hk, rfl, hup⟩ := hrel
    by_cases hlt : k < N
    · obtain ⟨x, hx⟩ : ∃ x, l1[k]? = some x := ⟨_, List.getElem?_eq_getElem (by have := HN1.out; omega)⟩
      obtain ⟨y, hy⟩ : ∃ y, l2[k]? = some y := ⟨_, List.getElem?_eq_getElem (by have := HN2.out; omega)⟩
      have hxy : (x.l, x.eo) = (y.l, y.eo) := by
        have h3 : (l1.map (fun c => (c.l, c.eo)))[k]? = (l2.map (fun c => (c.l, c.eo)))[k]? := by rw [HE.out]
        rw [List.getElem?_map, List.getElem?_map, hx, hy] at h3
        exact Option.some.inj h3
      have hsx := HS1.out x (List.mem_of_getElem? hx)
      have hsy := HS2.out y (List.mem_of_getElem? hy)
      have u10 := HC1.out k x 0 _ hx rfl
      have u11 := HC1.out k x 1 _ hx rfl
      have u20 := HC2.out k y 0 _ hy rfl
      have u21 := HC2.out k y 1 _ hy rfl
      obtain ⟨xv, xl, xe⟩ := x
      obtain ⟨yv, yl, ye⟩ := y
      simp only [Prod.mk.injEq] at hxy
      obtain ⟨rfl, rfl⟩ := hxy
      simp only at u10 u11 u20 u21 hsx hsy
      obtain ⟨ax, cx, rfl⟩ := segV_slice hsx
      obtain ⟨ay, cy, rfl⟩ := segV_slice hsy
      generalize hL : xl.length = nl at *
      have HSX := Lib.hid hsx
      have HSY := Lib.hid hsy
      have q10 := (hup.cells.1 g1 _ hg1).trans u10
      have q11 := (hup.cells.1 g1 _ hg1).trans u11
      have q20 := (hup.cells.1 g2 _ hg2).trans u20
      have q21 := (hup.cells.1 g2 _ hg2).trans u21
      simp only [Nat.add_zero] at q10 q20
      clear u10 u11 u20 u21 hx hy hsx hsy hL
      have hz := hup.size
      have hd : (xe != xe) = false := by simp
      go_wp2
      go_region_held3 (fun w' => w'.cell? ⟨g1, o1 + k * 2, none⟩ = some (.slice ax nl cx) ∧ w'.cell? ⟨g1, o1 + k * 2 + 1, none⟩ = some (.bool xe) ∧ w'.cell? ⟨g2, o2 + k * 2, none⟩ = some (.slice ay nl cy) ∧ w'.cell? ⟨g2, o2 + k * 2 + 1, none⟩ = some (.bool xe)) (first | with_reducible exact ⟨x10, x11, x20, x21⟩ | with_reducible exact ⟨q10, q11, q20, q21⟩ | go_keep) ((go_at_call 29; ((with_reducible refine (Path.same_calls _ _ xl xl _ (HSX.out.up (by (repeat' (first | (with_reducible first | exact Up.refl _ | assumption | refine Up.alloc ?_ _ | refine Up.drew ?_ | refine Up.drewN ?_ _ | refine Up.setCell ?_ ?_ _ | refine Up.call ?_ (by assumption)) | go_size)))) (HSY.out.up (by (repeat' (first | (with_reducible first | exact Up.refl _ | assumption | refine Up.alloc ?_ _ | refine Up.drew ?_ | refine Up.drewN ?_ _ | refine Up.setCell ?_ ?_ _ | refine Up.call ?_ (by assumption)) | go_size))))).mono ?_); rw [decide_eq_true (rfl : xl = xl)]; rintro E w1 ⟨rfl, hu1⟩; have z1 := hu1.size; have x10 := cell_up hu1 q10; have x11 := cell_up hu1 q11; have x20 := cell_up hu1 q20; have x21 := cell_up hu1 q21)))
      go_wp2
      go_roundw
      case rel => exact ⟨k + 1, by omega, by go_num, by (repeat' (first | (with_reducible first | exact Up.refl _ | assumption | refine Up.alloc ?_ _ | refine Up.drew ?_ | refine Up.drewN ?_ _ | refine Up.setCell ?_ ?_ _ | refine Up.call ?_ (by assumption)) | go_size))⟩
      case measure => simp [intOf]; omega
    · obtain rfl : k = N := by omega
      go_wp2
      go_ret
      exact ⟨rfl, by (repeat' (first | (with_reducible first | exact Up.refl _ | assumption | refine Up.alloc ?_ _ | refine Up.drew ?_ | refine Up.drewN ?_ _ | refine Up.setCell ?_ ?_ _ | refine Up.call ?_ (by assumption)) | go_size))⟩

set_option maxRecDepth 8000 in
set_option maxHeartbeats 1000000 in
theorem samePen_eq (wd cp jn mt ph : Int) (a1 a2 : Option Addr) (N c1 c2 : Nat) (zs : List Int) (w : World) (hN : zs.length = N) (hl : N ≤ 1000000000) (h1 : Ints .i64 w (.slice a1 N c1) zs) (h2 : Ints .i64 w (.slice a2 N c2) zs) : Calls Tryd.prog 24 #[.agg #[.int .i64 wd, .int .i64 cp, .int .i64 jn, .int .i64 mt, .slice a1 N c1, .int .i64 ph], .agg #[.int .i64 wd, .int .i64 cp, .int .i64 jn, .int .i64 mt, .slice a2 N c2, .int .i64 ph]] w fun E w' => E = .returned (.bool true) ∧ Up w w' := by
  have H1 := Lib.hid h1
  have H2 := Lib.hid h2
  have HN := Lib.hid hN
  clear h1 h2 hN
  go_enter Tryd.func24, Tryd.ntmps24
  go_wp2_with (go_at_call 40; ((with_reducible refine (sameI_calls _ _ N _ _ zs _ HN.out hl (H1.out.up (by (repeat' (first | (with_reducible first | exact Up.refl _ | assumption | refine Up.alloc ?_ _ | refine Up.drew ?_ | refine Up.drewN ?_ _ | refine Up.setCell ?_ ?_ _ | refine Up.call ?_ (by assumption)) | go_size)))) (H2.out.up (by (repeat' (first | (with_reducible first | exact Up.refl _ | assumption | refine Up.alloc ?_ _ | refine Up.drew ?_ | refine Up.drewN ?_ _ | refine Up.setCell ?_ ?_ _ | refine Up.call ?_ (by assumption)) | go_size))))).mono ?_); rintro E w1 ⟨rfl, hu1⟩; have RP_w1 : Row w1 w.heap.size #[.int .i64 wd, .int .i64 cp, .int .i64 jn, .int .i64 mt, .slice a1 N c1, .int .i64 ph] := Row.up (show Row _ w.heap.size #[.int .i64 wd, .int .i64 cp, .int .i64 jn, .int .i64 mt, .slice a1 N c1, .int .i64 ph] by (repeat' (with_reducible first | assumption | (refine Row.at _ _ ?_; (simp; done)) | refine Row.alloc ?_ _ | refine Row.drew ?_ | refine Row.drewN ?_ _ | refine Row.other ?_ (by first | (simp; done) | (simp; omega) | omega) _ | refine Row.up ?_ (by assumption) | refine Row.chg ?_ (by assumption) (by first | (simp; done) | (simp; omega))))) hu1; have lP_w1 := RP_w1.lt; have cP_w1_5 : w1.cell? ⟨w.heap.size, 5, none⟩ = some (.int .i64 ph) := RP_w1.cell 5 rfl; have RQ_w1 : Row w1 (w.heap.size + 1) #[.int .i64 wd, .int .i64 cp, .int .i64 jn, .int .i64 mt, .slice a2 N c2, .int .i64 ph] := Row.up (show Row _ (w.heap.size + 1) #[.int .i64 wd, .int .i64 cp, .int .i64 jn, .int .i64 mt, .slice a2 N c2, .int .i64 ph] by (repeat' (with_reducible first | assumption | (refine Row.at _ _ ?_; (simp; done)) | refine Row.alloc ?_ _ | refine Row.drew ?_ | refine Row.drewN ?_ _ | refine Row.other ?_ (by first | (simp; done) | (simp; omega) | omega) _ | refine Row.up ?_ (by assumption) | refine Row.chg ?_ (by assumption) (by first | (simp; done) | (simp; omega))))) hu1; have lQ_w1 := RQ_w1.lt; have cQ_w1_5 : w1.cell? ⟨w.heap.size + 1, 5, none⟩ = some (.int .i64 ph) := RQ_w1.cell 5 rfl))
  go_ret
  exact ⟨rfl, by (repeat' (first | (with_reducible first | exact Up.refl _ | assumption | refine Up.alloc ?_ _ | refine Up.drew ?_ | refine Up.drewN ?_ _ | refine Up.setCell ?_ ?_ _ | refine Up.call ?_ (by assumption)) | go_size))⟩

end Go.Proofs.YteddlahklilncaaDoor.Pt
