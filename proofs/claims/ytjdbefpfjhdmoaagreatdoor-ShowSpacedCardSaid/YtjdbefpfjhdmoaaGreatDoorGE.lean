/- Two arrays of six integers are compared cell by cell. No condition. Items of letters compared: those that are the same. No condition. paint.owns of letters, a canvas' Items. Its condition: no more items than a page has, bytes that an append bears. Lists of letters compared; law 16's agree. Its condition: what is in both is the same; no more items than a page has. show.Show at a place, whatever comes. Its conditions: the fonts' names lie as they are laid; a length that a string has; room on the page. Program and reference together in memory, and what Show and Letters leave of both. Its conditions: the fonts' names lie as they are laid; a length that a string has; room on the page. ShowLetters, walked. Its condition: the fonts' names lie as they are laid. -/
import Derived.Test.YtjdbefpfjhdmoaaGreatDoorFix
import Derived.ChangeKeysEq
import Derived.Test.YtjdbefpfjhdmoaaGreatDoorGB
import Derived.Test.YtjdbefpfjhdmoaaGreatDoorGG
import Derived.OwnWalk
import Derived.Test.YtjdbefpfjhdmoaaGreatDoorGD
import Derived.Deep.RegionHeld3
import Derived.Test.YtjdbefpfjhdmoaaGreatDoorGShT2
import Derived.Test.YtjdbefpfjhdmoaaGreatDoorGJ
namespace Go.Proofs.YtjdbefpfjhdmoaaGreatDoor.ZGE
open Go.ChangeShapes Go.WideShapes Go.ChangeAt Go.RowKit
theorem ra {w : World} {b : Nat} {cs : Array Value} (h : Row w b cs := by (repeat' (with_reducible first | assumption | (refine Row.at _ _ ?_; (simp; done)) | refine Row.alloc ?_ _ | refine Row.drew ?_ | refine Row.drewN ?_ _ | refine Row.other ?_ (by first | (simp; done) | (simp; omega) | omega) _ | refine Row.up ?_ (by assumption) | refine Row.chg ?_ (by assumption) (by first | (simp; done) | (simp; omega))))) : Row w b cs := h
theorem ua {w v : World} (h : Up w v := by (repeat' (first | (with_reducible first | exact Up.refl _ | assumption | refine Up.alloc ?_ _ | refine Up.drew ?_ | refine Up.drewN ?_ _ | refine Up.setCell ?_ ?_ _ | refine Up.call ?_ (by assumption)) | go_size))) : Up w v := h
end Go.Proofs.YtjdbefpfjhdmoaaGreatDoor.ZGE
section
namespace Go.Proofs.YtjdbefpfjhdmoaaGreatDoor
open Go.RowKit

theorem infoInt : (Tryz.prog.info? 3).isSome = true := by kernel_rfl
theorem plainInt : Tryz.prog.plainKey 3 = true := by kernel_rfl
theorem cellsInt : Tryz.prog.cellsOf 3 = 1 := by kernel_rfl
/-- six numbers are six numbers -/
def all6 (x0 x1 x2 x3 x4 x5 y0 y1 y2 y3 y4 y5 : Int) : Bool := x0 == y0 && (x1 == y1 && (x2 == y2 && (x3 == y3 && (x4 == y4 && x5 == y5))))
theorem all6_iff (x0 x1 x2 x3 x4 x5 y0 y1 y2 y3 y4 y5 : Int) : all6 x0 x1 x2 x3 x4 x5 y0 y1 y2 y3 y4 y5 = true ↔ x0 = y0 ∧ x1 = y1 ∧ x2 = y2 ∧ x3 = y3 ∧ x4 = y4 ∧ x5 = y5 := by simp [all6]
theorem item (xs ys : Array Value) (j : Nat) (is : List Nat) (x y : Int) {w : World} (hx : xs[j * 1]? = some (.int .i64 x)) (hy : ys[j * 1]? = some (.int .i64 y)) :
    (Op.eqItems 9999 3 1 xs ys (j :: is)).run Tryz.prog w = bif x == y then (Op.eqItems 9999 3 1 xs ys is).run Tryz.prog w else .ok false w := by
  simp only [Op.eqItems, Sem.run_bind]
  rw [run_part_plain w plainInt hx]
  simp only [Result.andThen_ok]
  rw [run_part_plain w plainInt hy]
  simp only [Result.andThen_ok]
  rw [run_equalIn_int w 9998 _ _ _ x y Tryz.underlying3]
  simp only [Result.andThen_ok]
  cases (x == y) <;> simp [Sem.run_pure]
theorem run_eq6 (x0 x1 x2 x3 x4 x5 y0 y1 y2 y3 y4 y5 : Int) (w : World) :
    (Op.equalIn 10000 22 (.agg #[.int .i64 x0, .int .i64 x1, .int .i64 x2, .int .i64 x3, .int .i64 x4, .int .i64 x5]) (.agg #[.int .i64 y0, .int .i64 y1, .int .i64 y2, .int .i64 y3, .int .i64 y4, .int .i64 y5])).run Tryz.prog w
      = .ok (all6 x0 x1 x2 x3 x4 x5 y0 y1 y2 y3 y4 y5) w := by
  obtain ⟨i, hi⟩ := Option.isSome_iff_exists.1 infoInt
  rw [show (10000 : Nat) = 9999 + 1 from rfl, run_equalIn_array (w := w) 9999 _ _ Tryz.underlying22 hi, cellsInt, show List.range 6 = [0, 1, 2, 3, 4, 5] from rfl]
  rw [item _ _ 0 _ x0 y0 rfl rfl, item _ _ 1 _ x1 y1 rfl rfl, item _ _ 2 _ x2 y2 rfl rfl, item _ _ 3 _ x3 y3 rfl rfl, item _ _ 4 _ x4 y4 rfl rfl, item _ _ 5 _ x5 y5 rfl rfl]
  simp only [Op.eqItems, Sem.run_pure]
  unfold all6
  cases (x0 == y0) <;> cases (x1 == y1) <;> cases (x2 == y2) <;> cases (x3 == y3) <;> cases (x4 == y4) <;> cases (x5 == y5) <;> rfl

end Go.Proofs.YtjdbefpfjhdmoaaGreatDoor
end

section
namespace Go.Proofs.YtjdbefpfjhdmoaaGreatDoor.Sh
open Go.Proofs.YtjdbefpfjhdmoaaGreatDoor.ZGE
open Go.ChangeShapes Go.WideShapes Go.ChangeAt Go.RowKit
open Go.Proofs.YtjdbefpfjhdmoaaGreatDoor.Gs
open Go.Proofs.YtjdbefpfjhdmoaaGreatDoor.MatM (M6)
open Go.Proofs.YtjdbefpfjhdmoaaGreatDoor.PathM
set_option linter.unusedVariables false
set_option linter.unusedSimpArgs false

theorem ints_at {k : IntKind} {w : World} {a : Option Addr} {N c : Nat} {zs : List Int} (h : Ints k w (.slice a N c) zs) (hN : zs.length = N) (h0 : 0 < N) : ∃ g o, a = some ⟨g, o, none⟩ ∧ g < w.heap.size ∧ ∀ i, i < N → w.cell? ⟨g, o + i, none⟩ = some (.int k (zs.getD i 0)) := by
  obtain ⟨ao, c', e, hl, hm, hno, h1, hw⟩ := h
  injection e with e1 e2 e3
  subst e1 e3
  obtain ⟨g, o, h2, h3, h4⟩ := h1 (by omega)
  exact ⟨g, o, h2, h3, fun i hi => h4 i (by omega)⟩
theorem sameB_nil (a1 a2 : Option Addr) (c1 c2 : Nat) (w : World) : Calls Tryz.prog 96 #[.slice a1 0 c1, .slice a2 0 c2] w fun E w' => E = .returned (.bool true) ∧ Up w w' := by
  go_enter Tryz.func96, Tryz.ntmps96
  go_wp2
  go_loop [5] (fun s5 => s5 = .int .i64 0) (fun _ => 0)
  case atStart => rfl
  case round =>
    obtain rfl := hrel
    go_wp2
    go_ret
    exact ⟨rfl, by exact ua⟩
theorem sameB_calls (a1 a2 : Option Addr) (N c1 c2 : Nat) (zs : List Int) (w : World) (hN : zs.length = N) (hl : N ≤ 1000000000) (h1 : Ints .u8 w (.slice a1 N c1) zs) (h2 : Ints .u8 w (.slice a2 N c2) zs) :
    Calls Tryz.prog 96 #[.slice a1 N c1, .slice a2 N c2] w fun E w' => E = .returned (.bool true) ∧ Up w w' := by
  by_cases h0 : 0 < N
  rotate_left
  · obtain rfl : N = 0 := by omega
    exact sameB_nil a1 a2 c1 c2 w
  obtain ⟨g1, o1, rfl, hg1, hc1⟩ := ints_at h1 hN h0
  obtain ⟨g2, o2, rfl, hg2, hc2⟩ := ints_at h2 hN h0
  have HC1 := Lib.hid hc1
  have HC2 := Lib.hid hc2
  clear h1 h2 hc1 hc2 h0 hN
  go_enter Tryz.func96, Tryz.ntmps96
  go_wp2
  go_loopw [5] (fun i wr => ∃ k : Nat, k ≤ N ∧ i = .int .i64 k ∧ Up w wr) (fun i _ => N - (intOf i).toNat)
  case atStart => exact ⟨0, Nat.zero_le _, rfl, Up.refl _⟩
  case round =>
    obtain ⟨k, hk, rfl, hup⟩ := hrel
    by_cases hlt : k < N
    · obtain ⟨x, hx⟩ : ∃ x, zs.getD k 0 = x := ⟨_, rfl⟩
      have hq1 := (hup.cells.1 g1 (o1 + k) hg1).trans (HC1.out k hlt)
      have hq2 := (hup.cells.1 g2 (o2 + k) hg2).trans (HC2.out k hlt)
      rw [hx] at hq1 hq2
      clear hx
      have hz := hup.size
      go_wp2
      go_quiet (fail)
      go_wp2
      go_roundw
      case rel => exact ⟨k + 1, by omega, by go_num, by exact ua⟩
      case measure => simp [intOf]; omega
    · obtain rfl : k = N := by omega
      go_wp2
      go_ret
      exact ⟨rfl, by exact ua⟩
theorem sameI_nil (w : World) : Calls Tryz.prog 111 #[.slice none 0 0, .slice none 0 0] w fun E w' => E = .returned (.bool true) ∧ Up w w' := by
  go_enter Tryz.func111, Tryz.ntmps111
  go_wp2
  go_loop [5] (fun s5 => s5 = .int .i64 0) (fun _ => 0)
  case atStart => rfl
  case round =>
    obtain rfl := hrel
    go_wp2
    go_ret
    exact ⟨rfl, by exact ua⟩
theorem sameC_nil (a1 a2 : Option Addr) (c1 c2 : Nat) (w : World) : Calls Tryz.prog 94 #[.slice a1 0 c1, .slice a2 0 c2] w fun E w' => E = .returned (.bool true) ∧ Up w w' := by
  go_enter Tryz.func94, Tryz.ntmps94
  go_wp2
  go_loop [5] (fun s5 => s5 = .int .i64 0) (fun _ => 0)
  case atStart => rfl
  case round =>
    obtain rfl := hrel
    go_wp2
    go_ret
    exact ⟨rfl, by exact ua⟩

set_option maxRecDepth 8000 in
set_option maxHeartbeats 1000000 in
theorem samePen_zero (w : World) : Calls Tryz.prog 95 #[.agg #[.int .i64 0, .int .i64 0, .int .i64 0, .int .i64 0, .slice none 0 0, .int .i64 0], .agg #[.int .i64 0, .int .i64 0, .int .i64 0, .int .i64 0, .slice none 0 0, .int .i64 0]] w fun E w' => E = .returned (.bool true) ∧ Up w w' := by
  go_enter Tryz.func95, Tryz.ntmps95
  go_wp2_with (go_at_call 111; ((with_reducible refine (sameI_nil _).mono ?_); rintro E w1 ⟨rfl, hu1⟩; have RP_w1 : Row w1 w.heap.size #[.int .i64 0, .int .i64 0, .int .i64 0, .int .i64 0, .slice none 0 0, .int .i64 0] := Row.up (show Row _ w.heap.size #[.int .i64 0, .int .i64 0, .int .i64 0, .int .i64 0, .slice none 0 0, .int .i64 0] by exact ra) hu1; have lP_w1 := RP_w1.lt; have cP_w1_5 : w1.cell? ⟨w.heap.size, 5, none⟩ = some (.int .i64 0) := RP_w1.cell 5 rfl; have RQ_w1 : Row w1 (w.heap.size + 1) #[.int .i64 0, .int .i64 0, .int .i64 0, .int .i64 0, .slice none 0 0, .int .i64 0] := Row.up (show Row _ (w.heap.size + 1) #[.int .i64 0, .int .i64 0, .int .i64 0, .int .i64 0, .slice none 0 0, .int .i64 0] by exact ra) hu1; have lQ_w1 := RQ_w1.lt; have cQ_w1_5 : w1.cell? ⟨w.heap.size + 1, 5, none⟩ = some (.int .i64 0) := RQ_w1.cell 5 rfl))
  go_ret
  exact ⟨rfl, by exact ua⟩

theorem eqCol (w : World) : (Op.equalIn 10000 33 (.agg #[.int .i64 1, .int .i64 0, .int .i64 0, .int .i64 0, .int .i64 0]) (.agg #[.int .i64 1, .int .i64 0, .int .i64 0, .int .i64 0, .int .i64 0])).run Tryz.prog w = .ok true w := by kernel_rfl
set_option maxRecDepth 8000 in
set_option maxHeartbeats 4000000 in
theorem sameItem_calls (fn : Int) (m : M6) (ca ca2 ba ba2 : Option Addr) (cc cc2 bc bc2 N : Nat) (zs : List Int) (w : World) (hN : zs.length = N) (hl : N ≤ 1000000000) (h1 : Ints .u8 w (.slice ba N bc) zs) (h2 : Ints .u8 w (.slice ba2 N bc2) zs) :
    Calls Tryz.prog 69 #[.agg #[.int .i64 4, .slice none 0 0, .int .i64 1, .int .i64 0, .int .i64 0, .int .i64 0, .int .i64 0, .slice ca 0 cc, .int .i64 0, .int .i64 0, .int .i64 0, .int .i64 0, .slice none 0 0, .int .i64 0, .int .i64 fn, .int .i64 m.a, .int .i64 m.b, .int .i64 m.c, .int .i64 m.d, .int .i64 m.x, .int .i64 m.y, .slice ba N bc], .agg #[.int .i64 4, .slice none 0 0, .int .i64 1, .int .i64 0, .int .i64 0, .int .i64 0, .int .i64 0, .slice ca2 0 cc2, .int .i64 0, .int .i64 0, .int .i64 0, .int .i64 0, .slice none 0 0, .int .i64 0, .int .i64 fn, .int .i64 m.a, .int .i64 m.b, .int .i64 m.c, .int .i64 m.d, .int .i64 m.x, .int .i64 m.y, .slice ba2 N bc2]] w fun E w' => E = .returned (.bool true) ∧ Up w w' := by
  have H1 := Lib.hid h1
  have H2 := Lib.hid h2
  have HN := Lib.hid hN
  have HSN := Lib.hid (show ∀ w, Path.SegV w (.slice none 0 0) [] from fun w => Or.inl ⟨none, 0, rfl, rfl⟩)
  have eqC := eqCol
  have eqM : ∀ w, (Op.equalIn 10000 22 (.agg #[.int .i64 m.a, .int .i64 m.b, .int .i64 m.c, .int .i64 m.d, .int .i64 m.x, .int .i64 m.y]) (.agg #[.int .i64 m.a, .int .i64 m.b, .int .i64 m.c, .int .i64 m.d, .int .i64 m.x, .int .i64 m.y])).run Tryz.prog w = .ok true w := fun w => by
    rw [run_eq6]
    simp [all6]
  clear h1 h2 hN
  go_enter Tryz.func69, Tryz.ntmps69
  go_wp2_with (first
    | (go_at_call 34; ((with_reducible refine (Path.same_calls _ _ [] [] _ (HSN.out _) (HSN.out _)).mono ?_); rw [decide_eq_true (rfl : ([] : List Seg) = [])]; rintro E w1 ⟨rfl, hu1⟩; have RA_w1 : Row w1 w.heap.size #[.int .i64 4, .slice none 0 0, .int .i64 1, .int .i64 0, .int .i64 0, .int .i64 0, .int .i64 0, .slice ca 0 cc, .int .i64 0, .int .i64 0, .int .i64 0, .int .i64 0, .slice none 0 0, .int .i64 0, .int .i64 fn, .int .i64 m.a, .int .i64 m.b, .int .i64 m.c, .int .i64 m.d, .int .i64 m.x, .int .i64 m.y, .slice ba N bc] := Row.up (show Row _ w.heap.size #[.int .i64 4, .slice none 0 0, .int .i64 1, .int .i64 0, .int .i64 0, .int .i64 0, .int .i64 0, .slice ca 0 cc, .int .i64 0, .int .i64 0, .int .i64 0, .int .i64 0, .slice none 0 0, .int .i64 0, .int .i64 fn, .int .i64 m.a, .int .i64 m.b, .int .i64 m.c, .int .i64 m.d, .int .i64 m.x, .int .i64 m.y, .slice ba N bc] by exact ra) hu1; have lA_w1 := RA_w1.lt; have cA_w1_2 : w1.cell? ⟨w.heap.size, 2, none⟩ = some (.int .i64 1) := RA_w1.cell 2 rfl; have cA_w1_3 : w1.cell? ⟨w.heap.size, 3, none⟩ = some (.int .i64 0) := RA_w1.cell 3 rfl; have cA_w1_4 : w1.cell? ⟨w.heap.size, 4, none⟩ = some (.int .i64 0) := RA_w1.cell 4 rfl; have cA_w1_5 : w1.cell? ⟨w.heap.size, 5, none⟩ = some (.int .i64 0) := RA_w1.cell 5 rfl; have cA_w1_6 : w1.cell? ⟨w.heap.size, 6, none⟩ = some (.int .i64 0) := RA_w1.cell 6 rfl; have cA_w1_7 : w1.cell? ⟨w.heap.size, 7, none⟩ = some (.slice ca 0 cc) := RA_w1.cell 7 rfl; have RB_w1 : Row w1 (w.heap.size + 1) #[.int .i64 4, .slice none 0 0, .int .i64 1, .int .i64 0, .int .i64 0, .int .i64 0, .int .i64 0, .slice ca2 0 cc2, .int .i64 0, .int .i64 0, .int .i64 0, .int .i64 0, .slice none 0 0, .int .i64 0, .int .i64 fn, .int .i64 m.a, .int .i64 m.b, .int .i64 m.c, .int .i64 m.d, .int .i64 m.x, .int .i64 m.y, .slice ba2 N bc2] := Row.up (show Row _ (w.heap.size + 1) #[.int .i64 4, .slice none 0 0, .int .i64 1, .int .i64 0, .int .i64 0, .int .i64 0, .int .i64 0, .slice ca2 0 cc2, .int .i64 0, .int .i64 0, .int .i64 0, .int .i64 0, .slice none 0 0, .int .i64 0, .int .i64 fn, .int .i64 m.a, .int .i64 m.b, .int .i64 m.c, .int .i64 m.d, .int .i64 m.x, .int .i64 m.y, .slice ba2 N bc2] by exact ra) hu1; have lB_w1 := RB_w1.lt; have cB_w1_2 : w1.cell? ⟨w.heap.size + 1, 2, none⟩ = some (.int .i64 1) := RB_w1.cell 2 rfl; have cB_w1_3 : w1.cell? ⟨w.heap.size + 1, 3, none⟩ = some (.int .i64 0) := RB_w1.cell 3 rfl; have cB_w1_4 : w1.cell? ⟨w.heap.size + 1, 4, none⟩ = some (.int .i64 0) := RB_w1.cell 4 rfl; have cB_w1_5 : w1.cell? ⟨w.heap.size + 1, 5, none⟩ = some (.int .i64 0) := RB_w1.cell 5 rfl; have cB_w1_6 : w1.cell? ⟨w.heap.size + 1, 6, none⟩ = some (.int .i64 0) := RB_w1.cell 6 rfl; have cB_w1_7 : w1.cell? ⟨w.heap.size + 1, 7, none⟩ = some (.slice ca2 0 cc2) := RB_w1.cell 7 rfl; have z1 := hu1.size))
    | (go_at_call 94; ((with_reducible refine (sameC_nil _ _ _ _ _).mono ?_); rintro E w2 ⟨rfl, hu2⟩; have RA_w2 : Row w2 w.heap.size #[.int .i64 4, .slice none 0 0, .int .i64 1, .int .i64 0, .int .i64 0, .int .i64 0, .int .i64 0, .slice ca 0 cc, .int .i64 0, .int .i64 0, .int .i64 0, .int .i64 0, .slice none 0 0, .int .i64 0, .int .i64 fn, .int .i64 m.a, .int .i64 m.b, .int .i64 m.c, .int .i64 m.d, .int .i64 m.x, .int .i64 m.y, .slice ba N bc] := Row.up (show Row _ w.heap.size #[.int .i64 4, .slice none 0 0, .int .i64 1, .int .i64 0, .int .i64 0, .int .i64 0, .int .i64 0, .slice ca 0 cc, .int .i64 0, .int .i64 0, .int .i64 0, .int .i64 0, .slice none 0 0, .int .i64 0, .int .i64 fn, .int .i64 m.a, .int .i64 m.b, .int .i64 m.c, .int .i64 m.d, .int .i64 m.x, .int .i64 m.y, .slice ba N bc] by exact ra) hu2; have lA_w2 := RA_w2.lt; have cA_w2_8 : w2.cell? ⟨w.heap.size, 8, none⟩ = some (.int .i64 0) := RA_w2.cell 8 rfl; have cA_w2_9 : w2.cell? ⟨w.heap.size, 9, none⟩ = some (.int .i64 0) := RA_w2.cell 9 rfl; have cA_w2_10 : w2.cell? ⟨w.heap.size, 10, none⟩ = some (.int .i64 0) := RA_w2.cell 10 rfl; have cA_w2_11 : w2.cell? ⟨w.heap.size, 11, none⟩ = some (.int .i64 0) := RA_w2.cell 11 rfl; have cA_w2_12 : w2.cell? ⟨w.heap.size, 12, none⟩ = some (.slice none 0 0) := RA_w2.cell 12 rfl; have cA_w2_13 : w2.cell? ⟨w.heap.size, 13, none⟩ = some (.int .i64 0) := RA_w2.cell 13 rfl; have RB_w2 : Row w2 (w.heap.size + 1) #[.int .i64 4, .slice none 0 0, .int .i64 1, .int .i64 0, .int .i64 0, .int .i64 0, .int .i64 0, .slice ca2 0 cc2, .int .i64 0, .int .i64 0, .int .i64 0, .int .i64 0, .slice none 0 0, .int .i64 0, .int .i64 fn, .int .i64 m.a, .int .i64 m.b, .int .i64 m.c, .int .i64 m.d, .int .i64 m.x, .int .i64 m.y, .slice ba2 N bc2] := Row.up (show Row _ (w.heap.size + 1) #[.int .i64 4, .slice none 0 0, .int .i64 1, .int .i64 0, .int .i64 0, .int .i64 0, .int .i64 0, .slice ca2 0 cc2, .int .i64 0, .int .i64 0, .int .i64 0, .int .i64 0, .slice none 0 0, .int .i64 0, .int .i64 fn, .int .i64 m.a, .int .i64 m.b, .int .i64 m.c, .int .i64 m.d, .int .i64 m.x, .int .i64 m.y, .slice ba2 N bc2] by exact ra) hu2; have lB_w2 := RB_w2.lt; have cB_w2_8 : w2.cell? ⟨w.heap.size + 1, 8, none⟩ = some (.int .i64 0) := RB_w2.cell 8 rfl; have cB_w2_9 : w2.cell? ⟨w.heap.size + 1, 9, none⟩ = some (.int .i64 0) := RB_w2.cell 9 rfl; have cB_w2_10 : w2.cell? ⟨w.heap.size + 1, 10, none⟩ = some (.int .i64 0) := RB_w2.cell 10 rfl; have cB_w2_11 : w2.cell? ⟨w.heap.size + 1, 11, none⟩ = some (.int .i64 0) := RB_w2.cell 11 rfl; have cB_w2_12 : w2.cell? ⟨w.heap.size + 1, 12, none⟩ = some (.slice none 0 0) := RB_w2.cell 12 rfl; have cB_w2_13 : w2.cell? ⟨w.heap.size + 1, 13, none⟩ = some (.int .i64 0) := RB_w2.cell 13 rfl; have z2 := hu2.size))
    | (go_at_call 95; ((with_reducible refine (samePen_zero _).mono ?_); rintro E w3 ⟨rfl, hu3⟩; have RA_w3 : Row w3 w.heap.size #[.int .i64 4, .slice none 0 0, .int .i64 1, .int .i64 0, .int .i64 0, .int .i64 0, .int .i64 0, .slice ca 0 cc, .int .i64 0, .int .i64 0, .int .i64 0, .int .i64 0, .slice none 0 0, .int .i64 0, .int .i64 fn, .int .i64 m.a, .int .i64 m.b, .int .i64 m.c, .int .i64 m.d, .int .i64 m.x, .int .i64 m.y, .slice ba N bc] := Row.up (show Row _ w.heap.size #[.int .i64 4, .slice none 0 0, .int .i64 1, .int .i64 0, .int .i64 0, .int .i64 0, .int .i64 0, .slice ca 0 cc, .int .i64 0, .int .i64 0, .int .i64 0, .int .i64 0, .slice none 0 0, .int .i64 0, .int .i64 fn, .int .i64 m.a, .int .i64 m.b, .int .i64 m.c, .int .i64 m.d, .int .i64 m.x, .int .i64 m.y, .slice ba N bc] by exact ra) hu3; have lA_w3 := RA_w3.lt; have cA_w3_14 : w3.cell? ⟨w.heap.size, 14, none⟩ = some (.int .i64 fn) := RA_w3.cell 14 rfl; have cA_w3_15 : w3.cell? ⟨w.heap.size, 15, none⟩ = some (.int .i64 m.a) := RA_w3.cell 15 rfl; have cA_w3_16 : w3.cell? ⟨w.heap.size, 16, none⟩ = some (.int .i64 m.b) := RA_w3.cell 16 rfl; have cA_w3_17 : w3.cell? ⟨w.heap.size, 17, none⟩ = some (.int .i64 m.c) := RA_w3.cell 17 rfl; have cA_w3_18 : w3.cell? ⟨w.heap.size, 18, none⟩ = some (.int .i64 m.d) := RA_w3.cell 18 rfl; have cA_w3_19 : w3.cell? ⟨w.heap.size, 19, none⟩ = some (.int .i64 m.x) := RA_w3.cell 19 rfl; have cA_w3_20 : w3.cell? ⟨w.heap.size, 20, none⟩ = some (.int .i64 m.y) := RA_w3.cell 20 rfl; have cA_w3_21 : w3.cell? ⟨w.heap.size, 21, none⟩ = some (.slice ba N bc) := RA_w3.cell 21 rfl; have RB_w3 : Row w3 (w.heap.size + 1) #[.int .i64 4, .slice none 0 0, .int .i64 1, .int .i64 0, .int .i64 0, .int .i64 0, .int .i64 0, .slice ca2 0 cc2, .int .i64 0, .int .i64 0, .int .i64 0, .int .i64 0, .slice none 0 0, .int .i64 0, .int .i64 fn, .int .i64 m.a, .int .i64 m.b, .int .i64 m.c, .int .i64 m.d, .int .i64 m.x, .int .i64 m.y, .slice ba2 N bc2] := Row.up (show Row _ (w.heap.size + 1) #[.int .i64 4, .slice none 0 0, .int .i64 1, .int .i64 0, .int .i64 0, .int .i64 0, .int .i64 0, .slice ca2 0 cc2, .int .i64 0, .int .i64 0, .int .i64 0, .int .i64 0, .slice none 0 0, .int .i64 0, .int .i64 fn, .int .i64 m.a, .int .i64 m.b, .int .i64 m.c, .int .i64 m.d, .int .i64 m.x, .int .i64 m.y, .slice ba2 N bc2] by exact ra) hu3; have lB_w3 := RB_w3.lt; have cB_w3_14 : w3.cell? ⟨w.heap.size + 1, 14, none⟩ = some (.int .i64 fn) := RB_w3.cell 14 rfl; have cB_w3_15 : w3.cell? ⟨w.heap.size + 1, 15, none⟩ = some (.int .i64 m.a) := RB_w3.cell 15 rfl; have cB_w3_16 : w3.cell? ⟨w.heap.size + 1, 16, none⟩ = some (.int .i64 m.b) := RB_w3.cell 16 rfl; have cB_w3_17 : w3.cell? ⟨w.heap.size + 1, 17, none⟩ = some (.int .i64 m.c) := RB_w3.cell 17 rfl; have cB_w3_18 : w3.cell? ⟨w.heap.size + 1, 18, none⟩ = some (.int .i64 m.d) := RB_w3.cell 18 rfl; have cB_w3_19 : w3.cell? ⟨w.heap.size + 1, 19, none⟩ = some (.int .i64 m.x) := RB_w3.cell 19 rfl; have cB_w3_20 : w3.cell? ⟨w.heap.size + 1, 20, none⟩ = some (.int .i64 m.y) := RB_w3.cell 20 rfl; have cB_w3_21 : w3.cell? ⟨w.heap.size + 1, 21, none⟩ = some (.slice ba2 N bc2) := RB_w3.cell 21 rfl; have z3 := hu3.size))
    | (go_at_call 96; ((with_reducible refine (sameB_calls _ _ N _ _ zs _ HN.out hl (H1.out.up (by exact ua)) (H2.out.up (by exact ua))).mono ?_); rintro E w4 ⟨rfl, hu4⟩)))
  go_ret
  exact ⟨rfl, by exact ua⟩

end Go.Proofs.YtjdbefpfjhdmoaaGreatDoor.Sh
end

section
namespace Go.Proofs.YtjdbefpfjhdmoaaGreatDoor.Sh
open Go.Proofs.YtjdbefpfjhdmoaaGreatDoor.ZGE
open Go.ChangeShapes Go.WideShapes Go.ChangeAt Go.RowKit
open Go.Proofs.YtjdbefpfjhdmoaaGreatDoor.Gs
open Go.Proofs.YtjdbefpfjhdmoaaGreatDoor.MatM (M6)
open Go.Proofs.YtjdbefpfjhdmoaaGreatDoor.PathM
set_option linter.unusedVariables false
set_option linter.unusedSimpArgs false

/-- items that a list owns whose blocks are no older than a bound -/
structure Mid (w : World) (base : Nat) (v : Value) (l : List Cl) : Prop where
  its : w.ownsRow base 79 22 v l.length (clCells l)
  bytes : Bys w l
  lb : ∀ k ∈ l, 0 < k.it.bs.length
  apart : ∀ b ∈ bys l, b ∉ own v
theorem cl_range {w : World} {g cap k : Nat} {l : List Cl} {c : Cl} (h : Its w (.slice (some ⟨g, 0, none⟩) l.length cap) l) (hk : l[k]? = some c) : w.rangeAt g (k * 22) c.cells := fun j u hj => by
  have hk1 : k < l.length := (List.getElem?_eq_some_iff.1 hk).1
  have hj1 : j < 22 := by have := (List.getElem?_eq_some_iff.1 hj).1; rw [cells_length] at this; exact this
  rw [h.cellAt (k * 22 + j) (by omega), clCells_at l k c j hk hj1, hj]
theorem ownsRow_up {w w1 : World} {base : Nat} {e : TypeId} {k n : Nat} {v : Value} {xs : List Value} (h : w.ownsRow base e k v n xs) (hc : Up w w1) : w1.ownsRow base e k v n xs := by
  refine ⟨h.1, ?_⟩
  rcases h.2 with h1 | ⟨g, cap, cur, hv, hb, hg, hr⟩
  · exact Or.inl h1
  · refine Or.inr ⟨g, cap, cur, hv, hb, ?_, hr⟩
    rw [hc.block g (Array.getElem?_eq_some_iff.1 hg).1]
    exact hg
theorem ownsRow_lt {w : World} {base : Nat} {e : TypeId} {k n : Nat} {v : Value} {xs : List Value} (h : w.ownsRow base e k v n xs) : ∀ b ∈ own v, base ≤ b ∧ b < w.heap.size := fun b hb => by
  rcases h.2 with ⟨h1, h2⟩ | ⟨g, cap, cur, hv, hb2, hg, hr⟩
  · subst h1; simp [own, Value.ownBlock] at hb
  · subst hv
    simp [own, Value.ownBlock] at hb
    exact ⟨by omega, by rw [hb]; exact (Array.getElem?_eq_some_iff.1 hg).1⟩
/-- one more -/
theorem Mid.more {w w1 w2 : World} {base g2 cap2 H : Nat} {v : Value} {l : List Cl} (h : Mid w base v l) (hu : Up w w1) {k : Cl} (hk : Ints .u8 w1 k.bv k.it.bs) (h0 : 0 < k.it.bs.length) (hf : ∀ b ∈ own k.bv, w.heap.size ≤ b)
    (hc : Chg (own v) w1 w2) (hat : v.ownBlock = some g2 ∨ g2 = H) (hH : w1.heap.size ≤ H)
    (ho : w2.ownsRow base 79 22 (.slice (some ⟨g2, 0, none⟩) (l.length + 1) cap2) (l.length + 1) (clCells l ++ k.cells)) : Mid w2 base (.slice (some ⟨g2, 0, none⟩) (l.length + 1) cap2) (l ++ [k]) := by
  have hlt := ownsRow_lt h.its
  have hb0 := bys_lt h.bytes h.lb
  have hb1 : ∀ b ∈ bys [k], b < w1.heap.size := bys_lt (l := [k]) (fun k2 h2 => by rw [List.mem_singleton.1 h2]; exact hk) (fun k2 h2 => by rw [List.mem_singleton.1 h2]; exact h0)
  have hs := hu.size
  refine ⟨?_, ?_, ?_, ?_⟩
  · have e1 : (l ++ [k]).length = l.length + 1 := by simp
    have e2 : clCells (l ++ [k]) = clCells l ++ k.cells := by rw [clCells_append]; simp [clCells]
    rw [e1, e2]
    exact ho
  · intro k2 hk2
    rcases List.mem_append.1 hk2 with h1 | h1
    · exact ints_chgS ((h.bytes k2 h1).up hu) hc (fun g hg => h.apart g (List.mem_flatMap.2 ⟨k2, h1, hg⟩))
    · rw [List.mem_singleton.1 h1]
      exact ints_chgS hk hc (fun g hg h2 => by have := hf g hg; have := hlt g h2; omega)
  · intro k2 hk2
    rcases List.mem_append.1 hk2 with h1 | h1
    · exact h.lb k2 h1
    · rw [List.mem_singleton.1 h1]; exact h0
  · intro b hb h4
    have h4 := own_of h4
    simp only [Value.ownBlock, Option.some.injEq] at h4
    subst h4
    rw [bys_append] at hb
    rcases List.mem_append.1 hb with h1 | h1
    · rcases hat with h5 | h5
      · exact h.apart _ h1 (own_mem h5)
      · have := hb0 _ h1; omega
    · have h6 := hb1 _ h1
      have h7 := hf _ (by simpa [bys] using h1)
      rcases hat with h5 | h5
      · have := hlt _ (own_mem h5); omega
      · omega
theorem map_take_succ {l : List Cl} {k : Nat} {c : Cl} (h : l[k]? = some c) : (l.take (k + 1)).map (·.it) = (l.take k).map (·.it) ++ [c.it] := by
  rw [List.take_succ_eq_append_getElem (List.getElem?_eq_some_iff.1 h).1, List.map_append, (List.getElem?_eq_some_iff.1 h).2]
  rfl

set_option maxRecDepth 8000 in
set_option maxHeartbeats 4000000 in
theorem owns_calls (v : Value) (l : List Cl) (w : World) (h : Its w v l) (hb : Bys w l) (hlb : ∀ k ∈ l, 0 < k.it.bs.length) (hl : l.length ≤ 100000) (hbs : ∀ k ∈ l, k.it.bs.length ≤ 1000000) :
    Calls Tryz.prog 70 #[v] w fun E w' => ∃ v' l', E = .returned v' ∧ Mid w' w.heap.size v' l' ∧ l'.map (·.it) = l.map (·.it) ∧ Up w w' := by
  obtain ⟨i0, hi, hz0, hz1, hz2⟩ := info_parts infoIt3
  have HI := Lib.hid h
  have HB := Lib.hid hb
  have HLB := Lib.hid hlb
  have HBS := Lib.hid hbs
  have HG := Lib.hid (show ∀ a c, v = .slice a l.length c → 0 < l.length → ∃ g, a = some ⟨g, 0, none⟩ ∧ g < w.heap.size from fun a c e h0 => by
    rcases owned_form h with ⟨e2, h1⟩ | ⟨g, cap, e2, _, _, h1⟩
    · omega
    · rw [e] at e2; injection e2 with e3; exact ⟨g, e3, h1⟩)
  obtain ⟨ao, cap, rfl⟩ := owned_val h
  clear h hb hlb hbs
  go_enter Tryz.func70, Tryz.ntmps70
  go_wp2_with (refine wpList_make_own _ rfl _ _ 43 rfl w.heap.size 79 i0 (.agg #[.int .i64 0, .slice none 0 0, .int .i64 0, .int .i64 0, .int .i64 0, .int .i64 0, .int .i64 0, .slice none 0 0, .int .i64 0, .int .i64 0, .int .i64 0, .int .i64 0, .slice none 0 0, .int .i64 0, .int .i64 0, .int .i64 0, .int .i64 0, .int .i64 0, .int .i64 0, .int .i64 0, .int .i64 0, .slice none 0 0]) 22 Tryz.underlying43 hi hz0 hz1 .i64 .i64 _ l.length rfl rfl rfl (by rw [hz2]; omega) (by unfold maxLen; omega) (by simp) ?_; intro w1 hown1 hgr1; have HM1 := Lib.hid (show Mid w1 w.heap.size (.slice (some ⟨w.heap.size, 0, none⟩) 0 l.length) [] from ⟨hown1, (fun k hk => by cases hk), (fun k hk => by cases hk), (fun b hb => by cases hb)⟩); have HU1 := Lib.hid (show Up w w1 from grown_up (Up.refl _) hgr1 (fun k hk => by cases hk)); clear hown1 hgr1)
  go_loopw [3, 11] (fun s3 s11 wr => ∃ l1 : List Cl, ∃ a3 c3, l1.length ≤ l.length ∧ s11 = .int .i64 l1.length ∧ s3 = .slice a3 l1.length c3 ∧ Hid (Mid wr w.heap.size (.slice a3 l1.length c3) l1) ∧ Hid (l1.map (·.it) = (l.take l1.length).map (·.it)) ∧ Up w wr) (fun _ s11 _ => l.length - (intOf s11).toNat)
  case atStart => exact ⟨[], _, _, Nat.zero_le _, rfl, rfl, HM1, Lib.hid rfl, HU1.out⟩
  case round =>
    obtain ⟨l1, a3, c3, hk, rfl, rfl, HMD, HMP, hup⟩ := hrel
    by_cases hlt : l1.length < l.length
    · obtain ⟨k, hkk⟩ : ∃ k, l1.length = k := ⟨_, rfl⟩
      obtain ⟨⟨⟨fn, m, bs⟩, ca, cc, ba, bc⟩, hc⟩ : ∃ c, l[l1.length]? = some c := ⟨_, List.getElem?_eq_getElem hlt⟩
      have hcm := List.mem_of_getElem? hc
      have HV := Lib.hid (show Ints .u8 w (.slice ba bs.length bc) bs from HB.out _ hcm)
      have HBP := Lib.hid (show 0 < bs.length from HLB.out _ hcm)
      have HL1 := Lib.hid (show bs.length ≤ 1000000 from HBS.out _ hcm)
      have HC := Lib.hid hc
      have HOL := Lib.hid (fun b hb => (ownsRow_lt HMD.out.its b hb).1)
      obtain ⟨g, rfl, hg⟩ := HG.out ao cap rfl (by omega)
      have HRG := Lib.hid (show w.rangeAt g (l1.length * 22) #[.int .i64 4, .slice none 0 0, .int .i64 1, .int .i64 0, .int .i64 0, .int .i64 0, .int .i64 0, .slice ca 0 cc, .int .i64 0, .int .i64 0, .int .i64 0, .int .i64 0, .slice none 0 0, .int .i64 0, .int .i64 fn, .int .i64 m.a, .int .i64 m.b, .int .i64 m.c, .int .i64 m.d, .int .i64 m.x, .int .i64 m.y, .slice ba bs.length bc].toList from cl_range HI.out hc)
      have hz := hup.size
      clear hcm hc hkk k
      go_wp2_with (first
        | ((refine wpList_load_mid rfl 79 (.tmp 13) rfl g (l1.length * 22) (by first | rfl | simp) #[.int .i64 4, .slice none 0 0, .int .i64 1, .int .i64 0, .int .i64 0, .int .i64 0, .int .i64 0, .slice ca 0 cc, .int .i64 0, .int .i64 0, .int .i64 0, .int .i64 0, .slice none 0 0, .int .i64 0, .int .i64 fn, .int .i64 m.a, .int .i64 m.b, .int .i64 m.c, .int .i64 m.d, .int .i64 m.x, .int .i64 m.y, .slice ba bs.length bc].toList _ (fun j u hj => ((show Up w _ by exact ua).cells.1 g (l1.length * 22 + j) hg).trans (HRG.out j u hj)) Tryz.underlying79 rfl infoIt ?_); (try simp only [Array.toArray_toList]))
        | ((refine wpList_store_Row rfl 79 (.tmp 5) _ rfl wr.heap.size #[.int .i64 4, .slice none 0 0, .int .i64 1, .int .i64 0, .int .i64 0, .int .i64 0, .int .i64 0, .slice ca 0 cc, .int .i64 0, .int .i64 0, .int .i64 0, .int .i64 0, .slice none 0 0, .int .i64 0, .int .i64 fn, .int .i64 m.a, .int .i64 m.b, .int .i64 m.c, .int .i64 m.d, .int .i64 m.x, .int .i64 m.y, .slice ba bs.length bc] rfl rfl #[.int .i64 0, .slice none 0 0, .int .i64 0, .int .i64 0, .int .i64 0, .int .i64 0, .int .i64 0, .slice none 0 0, .int .i64 0, .int .i64 0, .int .i64 0, .int .i64 0, .slice none 0 0, .int .i64 0, .int .i64 0, .int .i64 0, .int .i64 0, .int .i64 0, .int .i64 0, .int .i64 0, .int .i64 0, .slice none 0 0] (by exact ra) infoIt rfl rfl (by simp [Value.oneCell']) ?_); intro w3 hr3 hc3; have z3 := hc3.size; (try simp at z3); have u3 : Up wr w3 := (show Chg [] wr w3 by (repeat' (first | (with_reducible first | exact Chg.refl _ _ | assumption | refine Chg.alloc ?_ _ | refine Chg.drew ?_ | refine Chg.drewN ?_ _ | refine Chg.setCell ?_ ?_ _ | refine Chg.upc ?_ (by assumption) | refine Chg.call ?_ (by assumption) ?_) | (refine Or.inl ?_; (simp; done)) | (simp; done) | (simp; omega) | omega))).up)
        | (refine wpList_load_Row rfl 79 (.tmp 5) rfl wr.heap.size rfl #[.int .i64 4, .slice none 0 0, .int .i64 1, .int .i64 0, .int .i64 0, .int .i64 0, .int .i64 0, .slice ca 0 cc, .int .i64 0, .int .i64 0, .int .i64 0, .int .i64 0, .slice none 0 0, .int .i64 0, .int .i64 fn, .int .i64 m.a, .int .i64 m.b, .int .i64 m.c, .int .i64 m.d, .int .i64 m.x, .int .i64 m.y, .slice ba bs.length bc] _ hr3 Tryz.underlying79 rfl infoIt rfl ?_)
        | (go_at_call 89; ((with_reducible refine (own_callsL fn m ca cc ba bc bs _ (HV.out.up (Up.call hup u3)) HL1.out).mono ?_); rintro E w4 ⟨ca1, cc1, ba1, bc1, rfl, hb4, hf4, hu4⟩; have z4 := hu4.size; have u4 : Up wr w4 := Up.call u3 hu4; have HB4 := Lib.hid hb4; have HF4 := Lib.hid hf4; clear hb4 hf4))
        | (at_builtin; go_loud (refine wpList_append_lies _ rfl (.tmp 15) (.tmp 18) 43 rfl w.heap.size 79 i0 (.agg #[.int .i64 0, .slice none 0 0, .int .i64 0, .int .i64 0, .int .i64 0, .int .i64 0, .int .i64 0, .slice none 0 0, .int .i64 0, .int .i64 0, .int .i64 0, .int .i64 0, .slice none 0 0, .int .i64 0, .int .i64 0, .int .i64 0, .int .i64 0, .int .i64 0, .int .i64 0, .int .i64 0, .int .i64 0, .slice none 0 0]) 22 240 Tryz.underlying43 hi hz0 hz1 hz2 rfl (by decide) (.slice a3 l1.length c3) l1.length (clCells l1) rfl (ownsRow_up HMD.out.its (Up.alloc u4 _)) ⟨w4.heap.size, 0, none⟩ 1 1 #[.int .i64 4, .slice none 0 0, .int .i64 1, .int .i64 0, .int .i64 0, .int .i64 0, .int .i64 0, .slice ca1 0 cc1, .int .i64 0, .int .i64 0, .int .i64 0, .int .i64 0, .slice none 0 0, .int .i64 0, .int .i64 fn, .int .i64 m.a, .int .i64 m.b, .int .i64 m.c, .int .i64 m.d, .int .i64 m.x, .int .i64 m.y, .slice ba1 bs.length bc1].toList rfl rfl (news_at (by exact ra) rfl) (by simp [Value.oneCell']) (by decide) (by unfold maxLen; omega) (by omega) (by have := hup.size; simp; omega) _ rfl ?_; intro g2 cap2 w5 hown5 hgr5 hat5 hg5; have z5 := hgr5.size; (try simp at z5); have HM5 := Lib.hid (HMD.out.more (k := ⟨⟨fn, m, bs⟩, ca1, cc1, ba1, bc1⟩) (w1 := w4) (H := w4.heap.size + 1) u4 HB4.out HBP.out (fun b hb => Nat.le_trans u3.size (HF4.out b hb)) (Chg.grown ((Chg.refl _ _).alloc _) hgr5 (fun k hk => Or.inl (own_mem hk))) (hat5.imp id (fun h => by simpa using h)) (Nat.le_succ _) hown5); have u5 : Up w w5 := (((Chg.of_up (S := []) (Up.call hup u4)).alloc _).grown hgr5 (fun k hk => Or.inr (HOL.out k (own_mem hk)))).up; clear hown5 hgr5 hat5)))
      go_roundw
      case rel => exact ⟨l1 ++ [⟨⟨fn, m, bs⟩, ca1, cc1, ba1, bc1⟩], some ⟨g2, 0, none⟩, cap2, by simp; omega, by simp, by simp, Lib.hid (by have h1 := HM5.out; simpa using h1), Lib.hid (by rw [List.length_append, List.length_singleton, map_take_succ HC.out, List.map_append, HMP.out]; rfl), u5⟩
      case measure => simp [intOf]; omega
    · go_wp2
      go_ret
      exact ⟨.slice a3 l1.length c3, rfl, l1, HMD.out, by rw [HMP.out, List.take_of_length_le (by omega)], hup⟩
theorem items_calls (c : Nat) (v : Value) (l : List Cl) (w : World) (hq : w.cell? ⟨c, 2, none⟩ = some v) (h : Its w v l) (hb : Bys w l) (hlb : ∀ k ∈ l, 0 < k.it.bs.length) (hl : l.length ≤ 100000) (hbs : ∀ k ∈ l, k.it.bs.length ≤ 1000000) :
    Calls Tryz.prog 37 #[.pointer (some ⟨c, 0, none⟩)] w fun E w' => ∃ v' l', E = .returned v' ∧ Mid w' w.heap.size v' l' ∧ l'.map (·.it) = l.map (·.it) ∧ Up w w' := by
  have HI := Lib.hid h
  have HB := Lib.hid hb
  have HLB := Lib.hid hlb
  have HBS := Lib.hid hbs
  clear h hb hlb hbs
  go_enter Tryz.func37, Tryz.ntmps37
  go_wp2_with (go_at_call 70; ((with_reducible refine (owns_calls v l _ HI.out HB.out HLB.out hl HBS.out).mono ?_); rintro E w1 ⟨v1, l1, rfl, hm1, hi1, hu1⟩; have HM1 := Lib.hid hm1; have HI1 := Lib.hid hi1; clear hm1 hi1))
  go_ret
  exact ⟨v1, l1, rfl, HM1.out, HI1.out, by exact ua⟩

end Go.Proofs.YtjdbefpfjhdmoaaGreatDoor.Sh
end

section
namespace Go.Proofs.YtjdbefpfjhdmoaaGreatDoor.Sh
open List renaming getElem_toArray → lga, getElem_cons_zero → lgz, getElem_cons_succ → lgs, setIfInBounds_toArray → lsa, set_cons_zero → lsz, set_cons_succ → lss
open Go.ChangeShapes Go.WideShapes Go.ChangeAt Go.RowKit
open Go.Proofs.YtjdbefpfjhdmoaaGreatDoor.Gs
open Go.Proofs.YtjdbefpfjhdmoaaGreatDoor.MatM (M6)
open Go.Proofs.YtjdbefpfjhdmoaaGreatDoor.PathM
set_option linter.unusedVariables false
set_option linter.unusedSimpArgs false

theorem sameItem_callsL (fn : Int) (m : M6) (ca ca2 ba ba2 : Option Addr) (cc cc2 bc bc2 : Nat) (bs : List Int) (w : World) (hl : bs.length ≤ 1000000000) (h1 : Ints .u8 w (.slice ba bs.length bc) bs) (h2 : Ints .u8 w (.slice ba2 bs.length bc2) bs) :
    Calls Tryz.prog 69 #[.agg #[.int .i64 4, .slice none 0 0, .int .i64 1, .int .i64 0, .int .i64 0, .int .i64 0, .int .i64 0, .slice ca 0 cc, .int .i64 0, .int .i64 0, .int .i64 0, .int .i64 0, .slice none 0 0, .int .i64 0, .int .i64 fn, .int .i64 m.a, .int .i64 m.b, .int .i64 m.c, .int .i64 m.d, .int .i64 m.x, .int .i64 m.y, .slice ba bs.length bc], .agg #[.int .i64 4, .slice none 0 0, .int .i64 1, .int .i64 0, .int .i64 0, .int .i64 0, .int .i64 0, .slice ca2 0 cc2, .int .i64 0, .int .i64 0, .int .i64 0, .int .i64 0, .slice none 0 0, .int .i64 0, .int .i64 fn, .int .i64 m.a, .int .i64 m.b, .int .i64 m.c, .int .i64 m.d, .int .i64 m.x, .int .i64 m.y, .slice ba2 bs.length bc2]] w fun E w' => E = .returned (.bool true) ∧ Up w w' :=
  sameItem_calls fn m ca ca2 ba ba2 cc cc2 bc bc2 bs.length bs w rfl hl h1 h2
theorem its_some {w : World} {a : Option Addr} {N c : Nat} {l : List Cl} (h : Its w (.slice a N c) l) (h0 : 0 < N) : ∃ g, a = some ⟨g, 0, none⟩ ∧ g < w.heap.size ∧ l.length = N := by
  rcases owned_form h with ⟨e2, h1⟩ | ⟨g, cap, e2, _, _, h1⟩
  · injection e2 with _ e3 _; omega
  · injection e2 with e3 e4 _; exact ⟨g, e3, h1, e4.symm⟩

set_option maxRecDepth 8000 in
set_option maxHeartbeats 4000000 in
theorem sameItems_calls (a1 a2 : Option Addr) (N c1 c2 : Nat) (l1 l2 : List Cl) (w : World) (hN : l1.length = N) (h1 : Its w (.slice a1 N c1) l1) (h2 : Its w (.slice a2 N c2) l2) (hb1 : Bys w l1) (hb2 : Bys w l2) (he : l1.map (·.it) = l2.map (·.it)) (hl : N ≤ 100000) (hbs : ∀ k ∈ l1, k.it.bs.length ≤ 1000000) :
    Calls Tryz.prog 36 #[.slice a1 N c1, .slice a2 N c2] w fun E w' => E = .returned (.bool true) ∧ Up w w' := by
  have hN2 : l2.length = N := by
    have := congrArg List.length he
    simp only [List.length_map] at this
    omega
  have H1 := Lib.hid h1
  have H2 := Lib.hid h2
  have HB1 := Lib.hid hb1
  have HB2 := Lib.hid hb2
  have HE := Lib.hid he
  have HBS := Lib.hid hbs
  have HN := Lib.hid (And.intro hN hN2)
  clear h1 h2 hb1 hb2 he hbs hN hN2
  go_enter Tryz.func36, Tryz.ntmps36
  go_wp2
  go_loopw [5] (fun s5 wr => ∃ k : Nat, k ≤ N ∧ s5 = .int .i64 k ∧ Up w wr) (fun s5 _ => N - (intOf s5).toNat)
  case atStart => exact ⟨0, Nat.zero_le _, rfl, Up.refl _⟩
  case round =>
    obtain ⟨k, hk, rfl, hup⟩ := hrel
    by_cases hlt : k < N
    · obtain ⟨⟨⟨fn, m, bs⟩, ca, cc, ba, bc⟩, hc⟩ : ∃ c, l1[k]? = some c := ⟨_, List.getElem?_eq_getElem (by have := HN.out.1; omega)⟩
      obtain ⟨⟨it2, ca2, cc2, ba2, bc2⟩, hc2⟩ : ∃ c, l2[k]? = some c := ⟨_, List.getElem?_eq_getElem (by have := HN.out.2; omega)⟩
      obtain rfl : (⟨fn, m, bs⟩ : It) = it2 := by
        have := congrArg (fun l => l[k]?) HE.out
        simp only [List.getElem?_map, hc, hc2, Option.map_some, Option.some.injEq] at this
        exact this
      have HV1 := Lib.hid (show Ints .u8 w (.slice ba bs.length bc) bs from HB1.out _ (List.mem_of_getElem? hc))
      have HV2 := Lib.hid (show Ints .u8 w (.slice ba2 bs.length bc2) bs from HB2.out _ (List.mem_of_getElem? hc2))
      have HL1 := Lib.hid (show bs.length ≤ 1000000000 from by have h : bs.length ≤ 1000000 := HBS.out _ (List.mem_of_getElem? hc); omega)
      obtain ⟨g1, rfl, hg1, e1⟩ := its_some H1.out (by omega)
      obtain ⟨g2, rfl, hg2, e2⟩ := its_some H2.out (by omega)
      have HRA := Lib.hid (show w.rangeAt g1 (k * 22) #[.int .i64 4, .slice none 0 0, .int .i64 1, .int .i64 0, .int .i64 0, .int .i64 0, .int .i64 0, .slice ca 0 cc, .int .i64 0, .int .i64 0, .int .i64 0, .int .i64 0, .slice none 0 0, .int .i64 0, .int .i64 fn, .int .i64 m.a, .int .i64 m.b, .int .i64 m.c, .int .i64 m.d, .int .i64 m.x, .int .i64 m.y, .slice ba bs.length bc].toList from cl_range (cap := c1) (by have h := H1.out; rw [← e1] at h; exact h) hc)
      have HRB := Lib.hid (show w.rangeAt g2 (k * 22) #[.int .i64 4, .slice none 0 0, .int .i64 1, .int .i64 0, .int .i64 0, .int .i64 0, .int .i64 0, .slice ca2 0 cc2, .int .i64 0, .int .i64 0, .int .i64 0, .int .i64 0, .slice none 0 0, .int .i64 0, .int .i64 fn, .int .i64 m.a, .int .i64 m.b, .int .i64 m.c, .int .i64 m.d, .int .i64 m.x, .int .i64 m.y, .slice ba2 bs.length bc2].toList from cl_range (cap := c2) (by have h := H2.out; rw [← e2] at h; exact h) hc2)
      have hz := hup.size
      clear hc hc2 e1 e2
      go_wp2
      refine wp_region_held_drew (S := fun w' => w'.rangeAt g1 (k * 22) #[.int .i64 4, .slice none 0 0, .int .i64 1, .int .i64 0, .int .i64 0, .int .i64 0, .int .i64 0, .slice ca 0 cc, .int .i64 0, .int .i64 0, .int .i64 0, .int .i64 0, .slice none 0 0, .int .i64 0, .int .i64 fn, .int .i64 m.a, .int .i64 m.b, .int .i64 m.c, .int .i64 m.d, .int .i64 m.x, .int .i64 m.y, .slice ba bs.length bc].toList ∧ w'.rangeAt g2 (k * 22) #[.int .i64 4, .slice none 0 0, .int .i64 1, .int .i64 0, .int .i64 0, .int .i64 0, .int .i64 0, .slice ca2 0 cc2, .int .i64 0, .int .i64 0, .int .i64 0, .int .i64 0, .slice none 0 0, .int .i64 0, .int .i64 fn, .int .i64 m.a, .int .i64 m.b, .int .i64 m.c, .int .i64 m.d, .int .i64 m.x, .int .i64 m.y, .slice ba2 bs.length bc2].toList) (by kernel_rfl) ?_ (fun hHeld => ?_)
      · exact ⟨fun j u hj => (hup.cells.1 g1 (k * 22 + j) hg1).trans (HRA.out j u hj), fun j u hj => (hup.cells.1 g2 (k * 22 + j) hg2).trans (HRB.out j u hj)⟩
      refine wpAnyH_take (i := 0) (v := ?_) rfl (by kernel_rfl) (by kernel_rfl) (by kernel_rfl) (fun _ _ _ h => h) (Or.inl ⟨by rfl, ?_⟩) (by assumption) ?_
      rotate_left
      · intro w2 hSw
        (try dsimp only at hSw)
        (try clear hSw)
        go_simp
        (try (with_reducible rfl))
      (try simp only [Act.put, lga, lgz, lgs, lsa, lsz, lss])
      refine wpAnyH_take (i := 1) (v := ?_) rfl (by kernel_rfl) (by kernel_rfl) (by kernel_rfl) (fun _ _ _ h => h) (Or.inl ⟨by rfl, ?_⟩) (by assumption) ?_
      rotate_left
      · intro w2 hSw
        (try dsimp only at hSw)
        (try clear hSw)
        go_simp
        (try (with_reducible rfl))
      (try simp only [Act.put, lga, lgz, lgs, lsa, lsz, lss])
      refine wpAnyH_take (i := 2) (v := ?_) rfl (by kernel_rfl) (by kernel_rfl) (by kernel_rfl) (fun _ _ _ h => h) (Or.inl ⟨by rfl, ?_⟩) (by assumption) ?_
      rotate_left
      · intro w2 hSw
        (try dsimp only at hSw)
        (try clear hSw)
        go_simp
        (try (with_reducible rfl))
      (try simp only [Act.put, lga, lgz, lgs, lsa, lsz, lss])
      refine wpAnyH_take (i := 4) (v := ?_) rfl (by kernel_rfl) (by kernel_rfl) (by kernel_rfl) (fun _ _ _ h => h) (Or.inl ⟨by rfl, ?_⟩) (by assumption) ?_
      rotate_left
      · intro w2 hSw
        (try dsimp only at hSw)
        (try clear hSw)
        go_simp
        (try (with_reducible rfl))
      (try simp only [Act.put, lga, lgz, lgs, lsa, lsz, lss])
      refine wpAnyH_take (i := 5) (v := ?_) rfl (by kernel_rfl) (by kernel_rfl) (by kernel_rfl) (fun _ _ _ h => h) (Or.inl ⟨by rfl, ?_⟩) (by assumption) ?_
      rotate_left
      · intro w2 hSw
        (try dsimp only at hSw)
        (try clear hSw)
        go_simp
        (try (with_reducible rfl))
      (try simp only [Act.put, lga, lgz, lgs, lsa, lsz, lss])
      refine wpAnyH_take (i := 6) (v := ?_) rfl (by kernel_rfl) (by kernel_rfl) (by kernel_rfl) (fun _ _ _ h => h) (Or.inl ⟨by rfl, ?_⟩) (by assumption) ?_
      rotate_left
      · intro w2 hSw
        (try dsimp only at hSw)
        (try clear hSw)
        go_simp
        (try (with_reducible rfl))
      (try simp only [Act.put, lga, lgz, lgs, lsa, lsz, lss])
      refine wpAnyH_take (i := 3) rfl (by kernel_rfl) (by kernel_rfl) (by kernel_rfl) (fun _ _ _ h => h) (yieldsIf_load_mid (by rfl) 79 (.tmp 19) rfl g1 (k * 22) (by first | rfl | simp) #[.int .i64 4, .slice none 0 0, .int .i64 1, .int .i64 0, .int .i64 0, .int .i64 0, .int .i64 0, .slice ca 0 cc, .int .i64 0, .int .i64 0, .int .i64 0, .int .i64 0, .slice none 0 0, .int .i64 0, .int .i64 fn, .int .i64 m.a, .int .i64 m.b, .int .i64 m.c, .int .i64 m.d, .int .i64 m.x, .int .i64 m.y, .slice ba bs.length bc].toList _ (fun _ h => h.1) Tryz.underlying79 rfl infoIt) (by assumption) ?_
      (try simp only [Array.toArray_toList])
      (try simp only [Act.put, lga, lgz, lgs, lsa, lsz, lss])
      refine wpAnyH_take (i := 7) rfl (by kernel_rfl) (by kernel_rfl) (by kernel_rfl) (fun _ _ _ h => h) (yieldsIf_load_mid (by rfl) 79 (.tmp 23) rfl g2 (k * 22) (by first | rfl | simp) #[.int .i64 4, .slice none 0 0, .int .i64 1, .int .i64 0, .int .i64 0, .int .i64 0, .int .i64 0, .slice ca2 0 cc2, .int .i64 0, .int .i64 0, .int .i64 0, .int .i64 0, .slice none 0 0, .int .i64 0, .int .i64 fn, .int .i64 m.a, .int .i64 m.b, .int .i64 m.c, .int .i64 m.d, .int .i64 m.x, .int .i64 m.y, .slice ba2 bs.length bc2].toList _ (fun _ h => h.2) Tryz.underlying79 rfl infoIt) (by assumption) ?_
      (try simp only [Array.toArray_toList])
      (try simp only [Act.put, lga, lgz, lgs, lsa, lsz, lss])
      refine wpAnyH_ready (rs := [8]) (by decide +kernel) (by simp) ?_
      refine AllReadyH.cons rfl (fun K hK => ?_) (AllReadyH.nil)
      (try simp only [lga, lgz, lgs])
      (go_simp; go_at_call 69; (with_reducible refine (sameItem_callsL fn m ca ca2 ba ba2 cc cc2 bc bc2 bs _ HL1.out (HV1.out.up (show Up w _ by (repeat' (first | (with_reducible first | exact Up.refl _ | assumption | refine Up.alloc ?_ _ | refine Up.drew ?_ | refine Up.drewN ?_ _ | refine Up.setCell ?_ ?_ _ | refine Up.call ?_ (by assumption)) | go_size)))) (HV2.out.up (show Up w _ by (repeat' (first | (with_reducible first | exact Up.refl _ | assumption | refine Up.alloc ?_ _ | refine Up.drew ?_ | refine Up.drewN ?_ _ | refine Up.setCell ?_ ?_ _ | refine Up.call ?_ (by assumption)) | go_size))))).mono ?_); rintro E w4 ⟨rfl, hu4⟩; (try dsimp only))
      refine hK.out _ _ ?_ (fun hHeld => ?_)
      · exact ⟨fun j u hj => (hu4.cells.1 g1 (k * 22 + j) (by have := hup.size; simp; omega)).trans (hHeld.1 j u hj), fun j u hj => (hu4.cells.1 g2 (k * 22 + j) (by have := hup.size; simp; omega)).trans (hHeld.2 j u hj)⟩
      clear hK K
      (try simp only [Act.put, lga, lgz, lgs, lsa, lsz, lss])
      refine wpAnyH_take (i := 9) (v := ?_) rfl (by kernel_rfl) (by kernel_rfl) (by kernel_rfl) (fun _ _ _ h => h) (Or.inl ⟨by rfl, ?_⟩) (by assumption) ?_
      rotate_left
      · intro w2 hSw
        (try dsimp only at hSw)
        (try clear hSw)
        go_simp
        (try (with_reducible rfl))
      (try simp only [Act.put, lga, lgz, lgs, lsa, lsz, lss])
      refine wpAnyH_done (by kernel_rfl) ?_ _
      clear hHeld
      go_wp2
      go_roundw
      case rel => exact ⟨k + 1, by omega, by go_num, by (repeat' (first | (with_reducible first | exact Up.refl _ | assumption | refine Up.alloc ?_ _ | refine Up.drew ?_ | refine Up.drewN ?_ _ | refine Up.setCell ?_ ?_ _ | refine Up.call ?_ (by assumption)) | go_size))⟩
      case measure => simp [intOf]; omega
    · obtain rfl : k = N := by omega
      go_wp2
      go_ret
      exact ⟨rfl, by (repeat' (first | (with_reducible first | exact Up.refl _ | assumption | refine Up.alloc ?_ _ | refine Up.drew ?_ | refine Up.drewN ?_ _ | refine Up.setCell ?_ ?_ _ | refine Up.call ?_ (by assumption)) | go_size))⟩

theorem mid_its {w : World} {base N : Nat} {v : Value} {l l2 : List Cl} (h : Mid w base v l) (he : l.map (·.it) = l2.map (·.it)) (hN : l2.length = N) : Its w v l ∧ l.length = N ∧ ∃ a c, v = .slice a N c := by
  have e : l.length = N := by
    have := congrArg List.length he
    simp only [List.length_map] at this
    omega
  have h1 := (owned_base h.its).1
  refine ⟨h1, e, ?_⟩
  obtain ⟨a, c, rfl⟩ := owned_val h1
  exact ⟨a, c, by rw [e]⟩
theorem its_len {l l1 : List Cl} (he : l.map (·.it) = l1.map (·.it)) (h : ∀ k ∈ l1, k.it.bs.length ≤ 1000000) : ∀ k ∈ l, k.it.bs.length ≤ 1000000 := fun k hk => by
  have h1 : k.it ∈ l1.map (·.it) := he ▸ List.mem_map_of_mem hk
  obtain ⟨k2, hk2, e⟩ := List.mem_map.1 h1
  rw [← e]
  exact h k2 hk2
set_option maxRecDepth 8000 in
set_option maxHeartbeats 4000000 in
theorem agreeL_calls (g c p N : Nat) (pv v : Value) (C : M6) (F : Int) (FM : M6) (dk : Bool) (n : Int) (T : St) (va ra : Option Addr) (vc rc : Nat) (l1 l2 : List Cl) (w : World) (hg : Row w g (gsC C 65536 (.slice none 0 0) 0 F FM dk p 2 n)) (hp : Path.PathIs w p pv T) (hc : Canv w c v l1) (hs : Path.Segs w (.slice va T.l.length vc) T.l)
    (hN : l2.length = N) (hi2 : Its w (.slice ra N rc) l2) (hb2 : Bys w l2) (he : l1.map (·.it) = l2.map (·.it)) (hlb : ∀ k ∈ l1, 0 < k.it.bs.length) (hl : N ≤ 100000) (hbs : ∀ k ∈ l1, k.it.bs.length ≤ 1000000) :
    Calls Tryz.prog 9 #[.pointer (some ⟨g, 0, none⟩), .pointer (some ⟨c, 0, none⟩), .agg #[.int .i64 C.a, .int .i64 C.b, .int .i64 C.c, .int .i64 C.d, .int .i64 C.x, .int .i64 C.y, .int .i64 1, .int .i64 0, .int .i64 0, .int .i64 0, .int .i64 0, .int .i64 65536, .int .i64 0, .int .i64 0, .int .i64 655360, .slice none 0 0, .int .i64 0, .int .i64 F, .int .i64 FM.a, .int .i64 FM.b, .int .i64 FM.c, .int .i64 FM.d, .int .i64 FM.x, .int .i64 FM.y, .slice none 0 0, .bool dk, .int .i64 n, .slice va T.l.length vc], .agg #[.int .i64 6553600, .int .i64 6553600, .slice ra N rc, .int .i64 2, .slice none 0 0]] w fun E w' => E = .returned (.bool true) ∧ Up w w' := by
  have HG := Lib.hid hg
  have HP := Lib.hid hp
  have HC := Lib.hid hc
  have HCR := Lib.hid hc.row
  have HS := Lib.hid hs
  have HN := Lib.hid hN
  have HI2 := Lib.hid hi2
  have HB2 := Lib.hid hb2
  have HE := Lib.hid he
  have HLB := Lib.hid hlb
  have HBS := Lib.hid hbs
  have HLN2 := Lib.hid hl
  have HLN := Lib.hid (show l1.length ≤ 100000 from by have := congrArg List.length he; simp only [List.length_map] at this; omega)
  have lg := hg.lt
  have lc := hc.row.lt
  clear hg hp hc hs hN hi2 hb2 he hlb hl hbs
  go_enter Tryz.func9, Tryz.ntmps9
  go_wp2
  go_region_held3 (fun w' => w'.cell? ⟨w.heap.size, 27, none⟩ = some (.slice va T.l.length vc) ∧ w'.cell? ⟨w.heap.size + 1, 2, none⟩ = some (.slice ra N rc)) (first | with_reducible exact ⟨aw4, bw4⟩ | with_reducible exact ⟨aw3, bw3⟩ | with_reducible exact ⟨aw2, bw2⟩ | with_reducible exact ⟨aw1, bw1⟩ | (constructor <;> simp) | go_keep) (first
    | (go_at_call 20; ((with_reducible refine (path_calls g p _ ((show Row _ g (gsC C 65536 (.slice none 0 0) 0 F FM dk p 2 n) from (by have hg3 := HG.out; (repeat' (with_reducible first | assumption | (refine Row.at _ _ ?_; (simp; done)) | refine Row.alloc ?_ _ | refine Row.drew ?_ | refine Row.drewN ?_ _ | refine Row.other ?_ (by first | (simp; done) | (simp; omega) | omega) _ | refine Row.up ?_ (by assumption) | refine Row.chg ?_ (by assumption) (by first | (simp; done) | (simp; omega)))))).cell 26 rfl)).mono ?_); rintro E w90 ⟨rfl, rfl⟩))
    | (go_at_call 35; ((with_reducible refine (Path.segments_calls p _ T _ (HP.out.up (by (repeat' (first | (with_reducible first | exact Up.refl _ | assumption | refine Up.alloc ?_ _ | refine Up.drew ?_ | refine Up.drewN ?_ _ | refine Up.setCell ?_ ?_ _ | refine Up.call ?_ (by assumption)) | go_size))))).mono ?_); rintro E w1 ⟨v1, rfl, hs1, hu1, ho1⟩; have z1 := hu1.size; (try simp at z1); have HS1 := Lib.hid hs1; clear hs1 ho1; have Baw1 : Row w1 w.heap.size #[.int .i64 C.a, .int .i64 C.b, .int .i64 C.c, .int .i64 C.d, .int .i64 C.x, .int .i64 C.y, .int .i64 1, .int .i64 0, .int .i64 0, .int .i64 0, .int .i64 0, .int .i64 65536, .int .i64 0, .int .i64 0, .int .i64 655360, .slice none 0 0, .int .i64 0, .int .i64 F, .int .i64 FM.a, .int .i64 FM.b, .int .i64 FM.c, .int .i64 FM.d, .int .i64 FM.x, .int .i64 FM.y, .slice none 0 0, .bool dk, .int .i64 n, .slice va T.l.length vc] := Row.up (show Row _ w.heap.size #[.int .i64 C.a, .int .i64 C.b, .int .i64 C.c, .int .i64 C.d, .int .i64 C.x, .int .i64 C.y, .int .i64 1, .int .i64 0, .int .i64 0, .int .i64 0, .int .i64 0, .int .i64 65536, .int .i64 0, .int .i64 0, .int .i64 655360, .slice none 0 0, .int .i64 0, .int .i64 F, .int .i64 FM.a, .int .i64 FM.b, .int .i64 FM.c, .int .i64 FM.d, .int .i64 FM.x, .int .i64 FM.y, .slice none 0 0, .bool dk, .int .i64 n, .slice va T.l.length vc] by (repeat' (with_reducible first | assumption | (refine Row.at _ _ ?_; (simp; done)) | refine Row.alloc ?_ _ | refine Row.drew ?_ | refine Row.drewN ?_ _ | refine Row.other ?_ (by first | (simp; done) | (simp; omega) | omega) _ | refine Row.up ?_ (by assumption) | refine Row.chg ?_ (by assumption) (by first | (simp; done) | (simp; omega))))) hu1; have Bbw1 : Row w1 (w.heap.size + 1) #[.int .i64 6553600, .int .i64 6553600, .slice ra N rc, .int .i64 2, .slice none 0 0] := Row.up (show Row _ (w.heap.size + 1) #[.int .i64 6553600, .int .i64 6553600, .slice ra N rc, .int .i64 2, .slice none 0 0] by (repeat' (with_reducible first | assumption | (refine Row.at _ _ ?_; (simp; done)) | refine Row.alloc ?_ _ | refine Row.drew ?_ | refine Row.drewN ?_ _ | refine Row.other ?_ (by first | (simp; done) | (simp; omega) | omega) _ | refine Row.up ?_ (by assumption) | refine Row.chg ?_ (by assumption) (by first | (simp; done) | (simp; omega))))) hu1; have aw1 : w1.cell? ⟨w.heap.size, 27, none⟩ = some (.slice va T.l.length vc) := Baw1.cell 27 rfl; have bw1 : w1.cell? ⟨w.heap.size + 1, 2, none⟩ = some (.slice ra N rc) := Bbw1.cell 2 rfl; have law1 := Baw1.lt; have lbw1 := Bbw1.lt))
    | (go_at_call 34; ((with_reducible refine (Path.same_calls v1 _ T.l T.l _ HS1.out.v ((HS.out.chg (S := []) (Chg.of_up (by (repeat' (first | (with_reducible first | exact Up.refl _ | assumption | refine Up.alloc ?_ _ | refine Up.drew ?_ | refine Up.drewN ?_ _ | refine Up.setCell ?_ ?_ _ | refine Up.call ?_ (by assumption)) | go_size)))) (by simp)).v)).mono ?_); rw [decide_eq_true (rfl : T.l = T.l)]; rintro E w2 ⟨rfl, hu2⟩; have z2 := hu2.size; have Baw2 : Row w2 w.heap.size #[.int .i64 C.a, .int .i64 C.b, .int .i64 C.c, .int .i64 C.d, .int .i64 C.x, .int .i64 C.y, .int .i64 1, .int .i64 0, .int .i64 0, .int .i64 0, .int .i64 0, .int .i64 65536, .int .i64 0, .int .i64 0, .int .i64 655360, .slice none 0 0, .int .i64 0, .int .i64 F, .int .i64 FM.a, .int .i64 FM.b, .int .i64 FM.c, .int .i64 FM.d, .int .i64 FM.x, .int .i64 FM.y, .slice none 0 0, .bool dk, .int .i64 n, .slice va T.l.length vc] := Row.up (show Row _ w.heap.size #[.int .i64 C.a, .int .i64 C.b, .int .i64 C.c, .int .i64 C.d, .int .i64 C.x, .int .i64 C.y, .int .i64 1, .int .i64 0, .int .i64 0, .int .i64 0, .int .i64 0, .int .i64 65536, .int .i64 0, .int .i64 0, .int .i64 655360, .slice none 0 0, .int .i64 0, .int .i64 F, .int .i64 FM.a, .int .i64 FM.b, .int .i64 FM.c, .int .i64 FM.d, .int .i64 FM.x, .int .i64 FM.y, .slice none 0 0, .bool dk, .int .i64 n, .slice va T.l.length vc] by (repeat' (with_reducible first | assumption | (refine Row.at _ _ ?_; (simp; done)) | refine Row.alloc ?_ _ | refine Row.drew ?_ | refine Row.drewN ?_ _ | refine Row.other ?_ (by first | (simp; done) | (simp; omega) | omega) _ | refine Row.up ?_ (by assumption) | refine Row.chg ?_ (by assumption) (by first | (simp; done) | (simp; omega))))) hu2; have Bbw2 : Row w2 (w.heap.size + 1) #[.int .i64 6553600, .int .i64 6553600, .slice ra N rc, .int .i64 2, .slice none 0 0] := Row.up (show Row _ (w.heap.size + 1) #[.int .i64 6553600, .int .i64 6553600, .slice ra N rc, .int .i64 2, .slice none 0 0] by (repeat' (with_reducible first | assumption | (refine Row.at _ _ ?_; (simp; done)) | refine Row.alloc ?_ _ | refine Row.drew ?_ | refine Row.drewN ?_ _ | refine Row.other ?_ (by first | (simp; done) | (simp; omega) | omega) _ | refine Row.up ?_ (by assumption) | refine Row.chg ?_ (by assumption) (by first | (simp; done) | (simp; omega))))) hu2; have aw2 : w2.cell? ⟨w.heap.size, 27, none⟩ = some (.slice va T.l.length vc) := Baw2.cell 27 rfl; have bw2 : w2.cell? ⟨w.heap.size + 1, 2, none⟩ = some (.slice ra N rc) := Bbw2.cell 2 rfl; have law2 := Baw2.lt; have lbw2 := Bbw2.lt))
    | (go_at_call 37; ((with_reducible refine (items_calls c _ l1 _ ((show Row _ c (cvC v) from (by have hc3 := HCR.out; (repeat' (with_reducible first | assumption | (refine Row.at _ _ ?_; (simp; done)) | refine Row.alloc ?_ _ | refine Row.drew ?_ | refine Row.drewN ?_ _ | refine Row.other ?_ (by first | (simp; done) | (simp; omega) | omega) _ | refine Row.up ?_ (by assumption) | refine Row.chg ?_ (by assumption) (by first | (simp; done) | (simp; omega)))))).cell 2 rfl) (owned_up HC.out.its (by (repeat' (first | (with_reducible first | exact Up.refl _ | assumption | refine Up.alloc ?_ _ | refine Up.drew ?_ | refine Up.drewN ?_ _ | refine Up.setCell ?_ ?_ _ | refine Up.call ?_ (by assumption)) | go_size)))) (HC.out.bytes.chg (S := []) (Chg.of_up (by (repeat' (first | (with_reducible first | exact Up.refl _ | assumption | refine Up.alloc ?_ _ | refine Up.drew ?_ | refine Up.drewN ?_ _ | refine Up.setCell ?_ ?_ _ | refine Up.call ?_ (by assumption)) | go_size)))) (by simp)) HLB.out HLN.out HBS.out).mono ?_); rintro E w3 ⟨v3, l3, rfl, hm3, hi3, hu3⟩; have z3 := hu3.size; have Baw3 : Row w3 w.heap.size #[.int .i64 C.a, .int .i64 C.b, .int .i64 C.c, .int .i64 C.d, .int .i64 C.x, .int .i64 C.y, .int .i64 1, .int .i64 0, .int .i64 0, .int .i64 0, .int .i64 0, .int .i64 65536, .int .i64 0, .int .i64 0, .int .i64 655360, .slice none 0 0, .int .i64 0, .int .i64 F, .int .i64 FM.a, .int .i64 FM.b, .int .i64 FM.c, .int .i64 FM.d, .int .i64 FM.x, .int .i64 FM.y, .slice none 0 0, .bool dk, .int .i64 n, .slice va T.l.length vc] := Row.up (show Row _ w.heap.size #[.int .i64 C.a, .int .i64 C.b, .int .i64 C.c, .int .i64 C.d, .int .i64 C.x, .int .i64 C.y, .int .i64 1, .int .i64 0, .int .i64 0, .int .i64 0, .int .i64 0, .int .i64 65536, .int .i64 0, .int .i64 0, .int .i64 655360, .slice none 0 0, .int .i64 0, .int .i64 F, .int .i64 FM.a, .int .i64 FM.b, .int .i64 FM.c, .int .i64 FM.d, .int .i64 FM.x, .int .i64 FM.y, .slice none 0 0, .bool dk, .int .i64 n, .slice va T.l.length vc] by (repeat' (with_reducible first | assumption | (refine Row.at _ _ ?_; (simp; done)) | refine Row.alloc ?_ _ | refine Row.drew ?_ | refine Row.drewN ?_ _ | refine Row.other ?_ (by first | (simp; done) | (simp; omega) | omega) _ | refine Row.up ?_ (by assumption) | refine Row.chg ?_ (by assumption) (by first | (simp; done) | (simp; omega))))) hu3; have Bbw3 : Row w3 (w.heap.size + 1) #[.int .i64 6553600, .int .i64 6553600, .slice ra N rc, .int .i64 2, .slice none 0 0] := Row.up (show Row _ (w.heap.size + 1) #[.int .i64 6553600, .int .i64 6553600, .slice ra N rc, .int .i64 2, .slice none 0 0] by (repeat' (with_reducible first | assumption | (refine Row.at _ _ ?_; (simp; done)) | refine Row.alloc ?_ _ | refine Row.drew ?_ | refine Row.drewN ?_ _ | refine Row.other ?_ (by first | (simp; done) | (simp; omega) | omega) _ | refine Row.up ?_ (by assumption) | refine Row.chg ?_ (by assumption) (by first | (simp; done) | (simp; omega))))) hu3; have aw3 : w3.cell? ⟨w.heap.size, 27, none⟩ = some (.slice va T.l.length vc) := Baw3.cell 27 rfl; have bw3 : w3.cell? ⟨w.heap.size + 1, 2, none⟩ = some (.slice ra N rc) := Bbw3.cell 2 rfl; have law3 := Baw3.lt; have lbw3 := Bbw3.lt; have HE3 := Lib.hid (hi3.trans HE.out); have HM3 := Lib.hid (mid_its hm3 (hi3.trans HE.out) HN.out); have HMB := Lib.hid hm3.bytes; (obtain ⟨a3, c3, rfl⟩ := HM3.out.2.2); have HI3 := Lib.hid HM3.out.1; have HB3 := Lib.hid (show ∀ k ∈ l3, k.it.bs.length ≤ 1000000 from its_len hi3 HBS.out); clear hm3 hi3))
    | (go_at_call 36; ((with_reducible refine (sameItems_calls a3 ra N c3 rc l3 l2 _ HM3.out.2.1 (owned_up HI3.out (by (repeat' (first | (with_reducible first | exact Up.refl _ | assumption | refine Up.alloc ?_ _ | refine Up.drew ?_ | refine Up.drewN ?_ _ | refine Up.setCell ?_ ?_ _ | refine Up.call ?_ (by assumption)) | go_size)))) (owned_up HI2.out (by (repeat' (first | (with_reducible first | exact Up.refl _ | assumption | refine Up.alloc ?_ _ | refine Up.drew ?_ | refine Up.drewN ?_ _ | refine Up.setCell ?_ ?_ _ | refine Up.call ?_ (by assumption)) | go_size)))) (HMB.out.chg (S := []) (Chg.of_up (by (repeat' (first | (with_reducible first | exact Up.refl _ | assumption | refine Up.alloc ?_ _ | refine Up.drew ?_ | refine Up.drewN ?_ _ | refine Up.setCell ?_ ?_ _ | refine Up.call ?_ (by assumption)) | go_size)))) (by simp)) (HB2.out.chg (S := []) (Chg.of_up (by (repeat' (first | (with_reducible first | exact Up.refl _ | assumption | refine Up.alloc ?_ _ | refine Up.drew ?_ | refine Up.drewN ?_ _ | refine Up.setCell ?_ ?_ _ | refine Up.call ?_ (by assumption)) | go_size)))) (by simp)) HE3.out HLN2.out HB3.out).mono ?_); rintro E w4 ⟨rfl, hu4⟩; have z4 := hu4.size; have Baw4 : Row w4 w.heap.size #[.int .i64 C.a, .int .i64 C.b, .int .i64 C.c, .int .i64 C.d, .int .i64 C.x, .int .i64 C.y, .int .i64 1, .int .i64 0, .int .i64 0, .int .i64 0, .int .i64 0, .int .i64 65536, .int .i64 0, .int .i64 0, .int .i64 655360, .slice none 0 0, .int .i64 0, .int .i64 F, .int .i64 FM.a, .int .i64 FM.b, .int .i64 FM.c, .int .i64 FM.d, .int .i64 FM.x, .int .i64 FM.y, .slice none 0 0, .bool dk, .int .i64 n, .slice va T.l.length vc] := Row.up (show Row _ w.heap.size #[.int .i64 C.a, .int .i64 C.b, .int .i64 C.c, .int .i64 C.d, .int .i64 C.x, .int .i64 C.y, .int .i64 1, .int .i64 0, .int .i64 0, .int .i64 0, .int .i64 0, .int .i64 65536, .int .i64 0, .int .i64 0, .int .i64 655360, .slice none 0 0, .int .i64 0, .int .i64 F, .int .i64 FM.a, .int .i64 FM.b, .int .i64 FM.c, .int .i64 FM.d, .int .i64 FM.x, .int .i64 FM.y, .slice none 0 0, .bool dk, .int .i64 n, .slice va T.l.length vc] by (repeat' (with_reducible first | assumption | (refine Row.at _ _ ?_; (simp; done)) | refine Row.alloc ?_ _ | refine Row.drew ?_ | refine Row.drewN ?_ _ | refine Row.other ?_ (by first | (simp; done) | (simp; omega) | omega) _ | refine Row.up ?_ (by assumption) | refine Row.chg ?_ (by assumption) (by first | (simp; done) | (simp; omega))))) hu4; have Bbw4 : Row w4 (w.heap.size + 1) #[.int .i64 6553600, .int .i64 6553600, .slice ra N rc, .int .i64 2, .slice none 0 0] := Row.up (show Row _ (w.heap.size + 1) #[.int .i64 6553600, .int .i64 6553600, .slice ra N rc, .int .i64 2, .slice none 0 0] by (repeat' (with_reducible first | assumption | (refine Row.at _ _ ?_; (simp; done)) | refine Row.alloc ?_ _ | refine Row.drew ?_ | refine Row.drewN ?_ _ | refine Row.other ?_ (by first | (simp; done) | (simp; omega) | omega) _ | refine Row.up ?_ (by assumption) | refine Row.chg ?_ (by assumption) (by first | (simp; done) | (simp; omega))))) hu4; have aw4 : w4.cell? ⟨w.heap.size, 27, none⟩ = some (.slice va T.l.length vc) := Baw4.cell 27 rfl; have bw4 : w4.cell? ⟨w.heap.size + 1, 2, none⟩ = some (.slice ra N rc) := Bbw4.cell 2 rfl; have law4 := Baw4.lt; have lbw4 := Bbw4.lt)))
  all_goals go_wp2
  all_goals
    go_ret
    exact ⟨rfl, by (repeat' (first | (with_reducible first | exact Up.refl _ | assumption | refine Up.alloc ?_ _ | refine Up.drew ?_ | refine Up.drewN ?_ _ | refine Up.setCell ?_ ?_ _ | refine Up.call ?_ (by assumption)) | go_size))⟩

end Go.Proofs.YtjdbefpfjhdmoaaGreatDoor.Sh
end

section
namespace Go.Proofs.YtjdbefpfjhdmoaaGreatDoor.Sh
open Go.ChangeShapes Go.WideShapes Go.ChangeAt Go.RowKit
open Go.Proofs.YtjdbefpfjhdmoaaGreatDoor.Gs
open Go.Proofs.YtjdbefpfjhdmoaaGreatDoor.FixM (fits)
open Go.Proofs.YtjdbefpfjhdmoaaGreatDoor.MatM (M6 concat)
open Go.Proofs.YtjdbefpfjhdmoaaGreatDoor.PathM
set_option linter.unusedVariables false
set_option linter.unusedSimpArgs false

theorem show_calls (g p c : Nat) (C : M6) (F : Int) (FM : M6) (dk : Bool) (n : Int) (pv v : Value) (l : List Cl) (x y : Int) (ba : Option Addr) (bc : Nat) (bs : List Int) (w : World) (h : Prg w g p c C F FM dk n pv v (T1 n x y) l)
    (hxy : fitsP (x, y) = true) (hv : Ints .u8 w (.slice ba bs.length bc) bs) (hl : bs.length ≤ 65535) (hln : l.length < 4096) (hF1 : F < 14) (h4 : (Lit.int .i64 C.x).wf = true) (h5 : (Lit.int .i64 C.y).wf = true) (hT : Font.Tab w) :
    Calls Tryz.prog 7 #[.pointer (some ⟨c, 0, none⟩), .pointer (some ⟨g, 0, none⟩), .slice ba bs.length bc] w fun E w' =>
      E = .returned (.int .i64 (letR C F FM dk x y bs).1) ∧ Shown w g p c C F FM dk n pv v l (T1 n (letR C F FM dk x y bs).2.1.1 (letR C F FM dk x y bs).2.1.2) (letR C F FM dk x y bs).2.2 w' := by
  obtain ⟨hx, hy⟩ : fits x = true ∧ fits y = true := by simpa [fitsP] using hxy
  have stop : ∀ e, (letR C F FM dk x y bs) = (e, (x, y), []) → Calls Tryz.prog 7 #[.pointer (some ⟨c, 0, none⟩), .pointer (some ⟨g, 0, none⟩), .slice ba bs.length bc] w (fun E w' => E = .returned (.int .i64 e) ∧ Up w w') →
      Calls Tryz.prog 7 #[.pointer (some ⟨c, 0, none⟩), .pointer (some ⟨g, 0, none⟩), .slice ba bs.length bc] w fun E w' =>
      E = .returned (.int .i64 (letR C F FM dk x y bs).1) ∧ Shown w g p c C F FM dk n pv v l (T1 n (letR C F FM dk x y bs).2.1.1 (letR C F FM dk x y bs).2.1.2) (letR C F FM dk x y bs).2.2 w' := by
    intro e he hc
    rw [he]
    exact hc.mono (by rintro E w' ⟨rfl, hu⟩; exact ⟨rfl, Shown.same h hu⟩)
  by_cases hF : F < 0
  · exact stop 7 (by unfold letR; rw [if_pos hF]) (show_stop g p c C F FM dk n pv v _ l 0 0 ba bc _ bs w h rfl hv hl 7 (by unfold placeR; rw [if_pos hF]) (by decide))
  have hR : placeR F (T1 n x y) = ((x, y), 0) := by unfold placeR; rw [if_neg hF]; rfl
  obtain ⟨⟨⟨bx, bz⟩, be⟩, hB⟩ : ∃ X, farR F FM bs = X := ⟨_, rfl⟩
  by_cases hb : be = 0
  rotate_left
  · exact stop be (by unfold letR; rw [if_neg hF, hB, if_pos hb]) (show_far g p c C F FM dk n pv v _ l x y ba bc _ bs w h rfl hv hl hR bx bz be hB hb)
  subst hb
  obtain ⟨⟨⟨tx, tz⟩, te⟩, hM⟩ : ∃ X, movedR C x y bx bz = X := ⟨_, rfl⟩
  by_cases ht : te = 0
  rotate_left
  · exact stop te (by unfold letR; rw [if_neg hF, hB]; simp only [hM]; rw [if_neg (by decide), if_pos ht]) (show_mov g p c C F FM dk n pv v _ l x y ba bc _ bs w h rfl hv hl hR bx bz tx tz te hB hM ht)
  subst ht
  have hfp : fitsP (tx, tz) = true := by have := moved_fits C x y bx bz; rwa [hM] at this
  have hmv := move_T1 n x y tx tz hfp
  have hlk := last_T1 n x y
  by_cases h0 : 0 < bs.length
  rotate_left
  · have e : letR C F FM dk x y bs = (0, (tx, tz), []) := by unfold letR; rw [if_neg hF, hB]; simp only [hM]; rw [if_neg (by decide), if_neg (by decide), if_neg (fun h => h0 h.1)]
    rw [e]
    refine (show_empty g p c C F FM dk n pv v _ l x y ba bc _ bs w h rfl hv hl hR bx bz tx tz hB hM hlk (by rw [hmv]) (by omega)).mono ?_
    rintro E w' ⟨rfl, hs⟩
    rw [hmv] at hs
    exact ⟨rfl, hs⟩
  cases dk
  rotate_left
  · have e : letR C F FM true x y bs = (0, (tx, tz), []) := by unfold letR; rw [if_neg hF, hB]; simp only [hM]; rw [if_neg (by decide), if_neg (by decide), if_neg (fun h => by cases h.2)]
    rw [e]
    refine (show_dark g p c C F FM true n pv v _ l x y ba bc _ bs w h rfl hv hl hR bx bz tx tz hB hM hlk (by rw [hmv]) h0 rfl).mono ?_
    rintro E w' ⟨rfl, hs⟩
    rw [hmv] at hs
    exact ⟨rfl, hs⟩
  obtain ⟨⟨mm, me⟩, hC⟩ : ∃ X, concat FM C = X := ⟨_, rfl⟩
  by_cases hm : me = 0
  rotate_left
  · exact stop me (by unfold letR; rw [if_neg hF, hB]; simp only [hM]; rw [if_neg (by decide), if_neg (by decide), if_pos ⟨h0, trivial⟩, hC, if_pos hm]) (show_bad g p c C F FM false n pv v _ l x y ba bc _ bs w h rfl hv hl hR bx bz tx tz hB hM hlk (by rw [hmv]) h0 rfl h4 h5 mm me hC hm)
  subst hm
  have e : letR C F FM false x y bs = (0, (tx, tz), [⟨F, ⟨mm.a, mm.b, mm.c, mm.d, x, y⟩, bs⟩]) := by unfold letR matR; rw [if_neg hF, hB]; simp only [hM]; rw [if_neg (by decide), if_neg (by decide), if_pos ⟨h0, trivial⟩, hC, if_neg (fun h => h rfl)]
  have hfi := mat_fits C FM x y hx hy
  unfold matR at hfi
  rw [hC] at hfi
  rw [e]
  refine (show_good g p c C F FM false n pv v _ l x y ba bc _ bs w h rfl hv hl hR bx bz tx tz hB hM hlk (by rw [hmv]) h0 rfl h4 h5 mm (by rw [hC]) (by rw [hC]) hln (by omega) hF1 hT hfi).mono ?_
  rintro E w' ⟨rfl, hs⟩
  rw [hmv] at hs
  exact ⟨rfl, hs⟩
/-- without a font, or a place -/
theorem show_noplace (g p c : Nat) (C : M6) (F : Int) (FM : M6) (dk : Bool) (n : Int) (pv v : Value) (l : List Cl) (ba : Option Addr) (bc : Nat) (bs : List Int) (w : World) (h : Prg w g p c C F FM dk n pv v ⟨n, [], Z, Z⟩ l)
    (hv : Ints .u8 w (.slice ba bs.length bc) bs) (hl : bs.length ≤ 65535) :
    Calls Tryz.prog 7 #[.pointer (some ⟨c, 0, none⟩), .pointer (some ⟨g, 0, none⟩), .slice ba bs.length bc] w fun E w' => E = .returned (.int .i64 (if F < 0 then 7 else 10)) ∧ Up w w' := by
  by_cases hF : F < 0
  · rw [if_pos hF]
    exact show_stop g p c C F FM dk n pv v _ l 0 0 ba bc _ bs w h rfl hv hl 7 (by unfold placeR; rw [if_pos hF]) (by decide)
  · rw [if_neg hF]
    exact show_stop g p c C F FM dk n pv v _ l 0 0 ba bc _ bs w h rfl hv hl 10 (by unfold placeR; rw [if_neg hF]; rfl) (by decide)

end Go.Proofs.YtjdbefpfjhdmoaaGreatDoor.Sh
end

section
namespace Go.Proofs.YtjdbefpfjhdmoaaGreatDoor.Sh
open Go.ChangeShapes Go.WideShapes Go.ChangeAt Go.RowKit
open Go.Proofs.YtjdbefpfjhdmoaaGreatDoor.Gs
open Go.Proofs.YtjdbefpfjhdmoaaGreatDoor.FixM (fits)
open Go.Proofs.YtjdbefpfjhdmoaaGreatDoor.MatM (M6)
open Go.Proofs.YtjdbefpfjhdmoaaGreatDoor.PathM
set_option linter.unusedVariables false
set_option linter.unusedSimpArgs false

/-- a path that is a place, or none -/
def TO (n : Int) : Option (Int × Int) → St
  | none => ⟨n, [], Z, Z⟩
  | some q => T1 n q.1 q.2
def fitsO : Option (Int × Int) → Prop
  | none => True
  | some q => fitsP q = true
/-- what Show does -/
def stepR (C : M6) (F : Int) (FM : M6) (dk : Bool) (q : Option (Int × Int)) (bs : List Int) : Int × Option (Int × Int) × List It :=
  match q with
  | none => (if F < 0 then 7 else 10, none, [])
  | some q => ((letR C F FM dk q.1 q.2 bs).1, some (letR C F FM dk q.1 q.2 bs).2.1, (letR C F FM dk q.1 q.2 bs).2.2)
theorem step_fits {C : M6} {F : Int} {FM : M6} {dk : Bool} {q : Option (Int × Int)} {bs : List Int} (h : fitsO q) : fitsO (stepR C F FM dk q bs).2.1 := by
  cases q with
  | none => trivial
  | some q => exact let_fits (x := q.1) (y := q.2) h
theorem let_its (C : M6) (F : Int) (FM : M6) (dk : Bool) (x y : Int) (bs : List Int) : (letR C F FM dk x y bs).2.2.length ≤ 1 ∧ ∀ i ∈ (letR C F FM dk x y bs).2.2, i.bs = bs := by
  unfold letR
  split
  · simp
  · split
    · simp
    · split
      · simp
      · split
        · split
          · simp
          · simp
        · simp
theorem step_its (C : M6) (F : Int) (FM : M6) (dk : Bool) (q : Option (Int × Int)) (bs : List Int) : (stepR C F FM dk q bs).2.2.length ≤ 1 ∧ ∀ i ∈ (stepR C F FM dk q bs).2.2, i.bs = bs := by
  cases q with
  | none => simp [stepR]
  | some q => exact let_its C F FM dk q.1 q.2 bs
/-- both -/
structure Two (w0 w : World) (g p c s m : Nat) (C : M6) (F : Int) (FM : M6) (dk : Bool) (n : Int) (pv v vl rv : Value) (T U : St) (l1 l2 : List Cl) : Prop where
  prg : Prg w g p c C F FM dk n pv v T l1
  ref : Ref w s m C F FM dk n vl rv U l2
  sep1 : ∀ b ∈ g :: p :: c :: (own pv ++ own v), b ≠ s ∧ b ≠ m ∧ b ∉ own vl ++ own rv ++ bys l2
  sep2 : ∀ b ∈ bys l1, b ≠ s ∧ b ≠ m
  new : ∀ b ∈ g :: p :: c :: s :: m :: (own pv ++ own v), w0.heap.size ≤ b
  up : Up w0 w
section
variable {w0 w w1 : World} {g p c s m : Nat} {C : M6} {F : Int} {FM : M6} {dk : Bool} {n : Int} {pv v vl rv : Value} {T U T' U' : St} {l1 l2 : List Cl} {its : List It}
theorem Two.chg (h : Two w0 w g p c s m C F FM dk n pv v vl rv T U l1 l2) (hu : Up w w1) : Two w0 w1 g p c s m C F FM dk n pv v vl rv T U l1 l2 :=
  ⟨h.prg.up hu, h.ref.up hu, h.sep1, h.sep2, h.new, Up.call h.up hu⟩
theorem Prg.mut_lt (h : Prg w g p c C F FM dk n pv v T l1) : ∀ b ∈ g :: p :: c :: (own pv ++ own v), b < w.heap.size := fun b hb => by
  simp only [List.mem_cons, List.mem_append] at hb
  rcases hb with rfl | rfl | rfl | hb | hb
  · exact h.rg.lt
  · exact h.pa.row.lt
  · exact h.cv.row.lt
  · exact pv_lt h.pa b hb
  · exact own_lt h.cv.its b hb
theorem Two.shown (h : Two w0 w g p c s m C F FM dk n pv v vl rv T U l1 l2) (hs : Shown w g p c C F FM dk n pv v l1 T' its w1) :
    ∃ pv' v' l1', Two w0 w1 g p c s m C F FM dk n pv' v' vl rv T' U l1' l2 ∧ l1'.map (·.it) = l1.map (·.it) ++ its := by
  obtain ⟨pv', v', l', h1, h2, h3, h4, h5⟩ := hs
  have hs0 := h.ref.rs.lt
  have hm0 := h.ref.rm.lt
  have hrl := h.ref.lt
  have hmem : ∀ b ∈ p :: c :: (own pv ++ own v), b ∈ g :: p :: c :: (own pv ++ own v) := fun b hb => List.mem_cons_of_mem _ hb
  have hold : ∀ b ∈ g :: p :: c :: (own pv' ++ own v'), b ∈ g :: p :: c :: (own pv ++ own v) ∨ w.heap.size ≤ b := fun b hb => by
    simp only [List.mem_cons] at hb
    rcases hb with rfl | rfl | rfl | hb
    · simp
    · simp
    · simp
    · exact (h4 b hb).imp (fun h => by simp only [List.mem_cons]; exact Or.inr (Or.inr (Or.inr h))) id
  refine ⟨pv', v', l', ⟨h1, h.ref.chg h3 (fun hb => (h.sep1 s (hmem s hb)).1 rfl) (fun hb => (h.sep1 m (hmem m hb)).2.1 rfl) (fun b hb h6 => (h.sep1 b (hmem b h6)).2.2 hb), ?_, ?_, ?_, ?_⟩, h2⟩
  · intro b hb
    rcases hold b hb with h6 | h6
    · exact h.sep1 b h6
    · exact ⟨by omega, by omega, fun h7 => by have := hrl b h7; omega⟩
  · intro b hb
    rcases h5 b hb with h6 | h6
    · exact h.sep2 b h6
    · exact ⟨by omega, by omega⟩
  · intro b hb
    have hsz := h.up.size
    simp only [List.mem_cons] at hb
    rcases hb with rfl | rfl | rfl | rfl | rfl | hb
    · exact h.new _ (by simp)
    · exact h.new _ (by simp)
    · exact h.new _ (by simp)
    · exact h.new _ (by simp)
    · exact h.new _ (by simp)
    · rcases h4 b hb with h6 | h6
      · exact h.new b (by simp only [List.mem_cons]; exact Or.inr (Or.inr (Or.inr (Or.inr (Or.inr h6)))))
      · omega
  · exact ((Chg.of_up (S := []) h.up).call h3 (fun k hk => Or.inr (by
      refine h.new k ?_
      simp only [List.mem_cons] at hk ⊢
      rcases hk with h1 | h1 | h1
      · exact Or.inr (Or.inl h1)
      · exact Or.inr (Or.inr (Or.inl h1))
      · exact Or.inr (Or.inr (Or.inr (Or.inr (Or.inr h1))))))).up
theorem Two.lettered (h : Two w0 w g p c s m C F FM dk n pv v vl rv T U l1 l2) (hs : Lettered w s m C F FM dk n vl rv l2 U' its w1) :
    ∃ vl' rv' l2', Two w0 w1 g p c s m C F FM dk n pv v vl' rv' T U' l1 l2' ∧ l2'.map (·.it) = l2.map (·.it) ++ its := by
  obtain ⟨vl', rv', l', h1, h2, h3, h4⟩ := hs
  have hml := h.prg.mut_lt
  have h5 : ∀ b ∈ g :: p :: c :: (own pv ++ own v), b ∉ [s, m] := fun b hb h6 => by
    have := h.sep1 b hb
    simp only [List.mem_cons, List.not_mem_nil, or_false] at h6
    rcases h6 with h6 | h6
    · exact this.1 h6
    · exact this.2.1 h6
  refine ⟨vl', rv', l', ⟨h.prg.chg h3 (h5 g (by simp)) (h5 p (by simp)) (h5 c (by simp)) (fun b hb => h5 b (by simp [hb])) (fun b hb => h5 b (by simp [hb])) (fun b hb h6 => ?_), h1, ?_, h.sep2, h.new, ?_⟩, h2⟩
  · have := h.sep2 b hb
    simp only [List.mem_cons, List.not_mem_nil, or_false] at h6
    rcases h6 with h6 | h6
    · exact this.1 h6
    · exact this.2 h6
  · intro b hb
    have h6 := h.sep1 b hb
    refine ⟨h6.1, h6.2.1, fun h7 => ?_⟩
    rcases h4 b h7 with h8 | h8
    · exact h6.2.2 h8
    · have := hml b hb; omega
  · exact ((Chg.of_up (S := []) h.up).call h3 (fun k hk => Or.inr (by
      refine h.new k ?_
      simp only [List.mem_cons, List.not_mem_nil, or_false] at hk ⊢
      rcases hk with h1 | h1
      · exact Or.inr (Or.inr (Or.inr (Or.inl h1)))
      · exact Or.inr (Or.inr (Or.inr (Or.inr (Or.inl h1))))))).up
end
theorem show_any (w0 w : World) (g p c s m : Nat) (C : M6) (F : Int) (FM : M6) (dk : Bool) (n : Int) (pv v vl rv : Value) (q : Option (Int × Int)) (U : St) (l1 l2 : List Cl) (h : Two w0 w g p c s m C F FM dk n pv v vl rv (TO n q) U l1 l2) (hq : fitsO q)
    (ba : Option Addr) (bc N : Nat) (bs : List Int) (hN : bs.length = N) (hv : Ints .u8 w (.slice ba N bc) bs) (hl : N ≤ 65535) (hln : l1.length < 4096) (hF1 : F < 14) (h4 : (Lit.int .i64 C.x).wf = true) (h5 : (Lit.int .i64 C.y).wf = true) (hT : Font.Tab w) :
    Calls Tryz.prog 7 #[.pointer (some ⟨c, 0, none⟩), .pointer (some ⟨g, 0, none⟩), .slice ba N bc] w fun E w' =>
      E = .returned (.int .i64 (stepR C F FM dk q bs).1) ∧ ∃ pv' v' l1', Two w0 w' g p c s m C F FM dk n pv' v' vl rv (TO n (stepR C F FM dk q bs).2.1) U l1' l2 ∧ l1'.map (·.it) = l1.map (·.it) ++ (stepR C F FM dk q bs).2.2 := by
  subst hN
  cases q with
  | none =>
    refine (show_noplace g p c C F FM dk n pv v l1 ba bc bs w h.prg hv hl).mono ?_
    rintro E w' ⟨rfl, hu⟩
    exact ⟨rfl, pv, v, l1, h.chg hu, by simp [stepR]⟩
  | some q =>
    refine (show_calls g p c C F FM dk n pv v l1 q.1 q.2 ba bc bs w h.prg hq hv hl hln hF1 h4 h5 hT).mono ?_
    rintro E w' ⟨rfl, hs⟩
    exact ⟨rfl, h.shown hs⟩
theorem rlet_any (w0 w : World) (g p c s m : Nat) (C : M6) (F : Int) (FM : M6) (dk : Bool) (n : Int) (pv v vl rv : Value) (q : Option (Int × Int)) (T : St) (l1 l2 : List Cl) (h : Two w0 w g p c s m C F FM dk n pv v vl rv T (TO n q) l1 l2)
    (ba : Option Addr) (bc N : Nat) (bs : List Int) (hN : bs.length = N) (hv : Ints .u8 w (.slice ba N bc) bs) (hl : N ≤ 65535) (hln : l2.length < 4096) :
    Calls Tryz.prog 8 #[.pointer (some ⟨m, 0, none⟩), .pointer (some ⟨s, 0, none⟩), .slice ba N bc] w fun E w' =>
      E = .returned (.int .i64 (stepR C F FM dk q bs).1) ∧ ∃ vl' rv' l2', Two w0 w' g p c s m C F FM dk n pv v vl' rv' T (TO n (stepR C F FM dk q bs).2.1) l1 l2' ∧ l2'.map (·.it) = l2.map (·.it) ++ (stepR C F FM dk q bs).2.2 := by
  subst hN
  cases q with
  | none =>
    refine (rlet_noplace s m C F FM dk n vl rv l2 ba bc bs w h.ref).mono ?_
    rintro E w' ⟨rfl, hu⟩
    exact ⟨rfl, vl, rv, l2, h.chg hu, by simp [stepR]⟩
  | some q =>
    refine (rlet_calls s m C F FM dk n vl rv l2 q.1 q.2 ba bc bs w h.ref hv hl hln).mono ?_
    rintro E w' ⟨rfl, hs⟩
    exact ⟨rfl, h.lettered hs⟩
/-- a place, or none, behind open -/
theorem to_of {n x y : Int} {pl : Bool} {T : St} (hn : 1 ≤ n) (h : (if pl = true then (St.move ⟨n, [], Z, Z⟩ (x, y)).1 else ⟨n, [], Z, Z⟩) = T) : ∃ q, T = TO n q ∧ fitsO q := by
  subst h
  cases pl
  · exact ⟨none, rfl, trivial⟩
  · by_cases hf : fitsP (x, y) = true
    · refine ⟨some (x, y), ?_, hf⟩
      have h1 : ¬ n < 1 := by omega
      simp [St.move, St.add, hf, lastK, h1, TO, T1]
    · refine ⟨none, ?_, trivial⟩
      simp [St.move, hf, TO]
/-- both at first -/
theorem Two.first {w0 w w1 : World} {g p c s m : Nat} {C : M6} {F : Int} {FM : M6} {dk : Bool} {n : Int} {pv vl : Value} {T : St} (hg : Row w g (gsC C 65536 (.slice none 0 0) 0 F FM dk p 2 n)) (hp : Path.PathIs w p pv T) (hc : Row w c (cvC (.slice none 0 0)))
    (hs : Path.Segs w vl T.l) (hL : Lies w0 g p c pv vl) (hu0 : Up w0 w) (hu : Up w w1) (h1 : w.heap.size ≤ s) (h2 : w.heap.size ≤ m) (h3 : s ≠ m) (hrs : Row w1 s (rsC C F FM dk n vl)) (hrm : Row w1 m (cvC (.slice none 0 0))) :
    Two w0 w1 g p c s m C F FM dk n pv (.slice none 0 0) vl (.slice none 0 0) T T [] [] := by
  have e0 : own (.slice none 0 0) = [] := rfl
  have lc := hc.lt
  have gc := hL.gc
  have pc := hL.pc
  have pl1 := pv_lt hp
  have vl1 := vl_lt hs
  have hz := hu0.size
  have hits : ∀ w, Its w (.slice none 0 0) [] := fun w => World.ownsRow_nil _ _ _ _
  refine ⟨⟨hg.up hu, hp.up hu, ⟨hc.up hu, hits _, (fun k hk => by cases hk), (fun b hb => by cases hb), (by simp [e0])⟩, (fun k hk => by cases hk), hL.pg.symm, by omega, by omega, ?_, by simp [e0], (fun b hb => by cases hb)⟩,
    ⟨hrs, hrm, hs.chg (S := []) (Chg.of_up hu) (by simp), hits _, (fun k hk => by cases hk), (fun k hk => by cases hk), h3, ?_⟩, ?_, (fun b hb => by cases hb), ?_, Up.call hu0 hu⟩
  · intro b hb
    have := hL.po b (own_of hb)
    exact ⟨by omega, by omega, by simp [e0]⟩
  · intro b hb
    simp only [e0, bys, List.flatMap_nil, List.append_nil] at hb
    have := vl1 b hb
    exact ⟨by omega, by omega⟩
  · intro b hb
    simp only [e0, List.append_nil, List.mem_cons] at hb
    have hlt : b < w.heap.size := by
      rcases hb with rfl | rfl | rfl | hb
      · omega
      · omega
      · omega
      · exact pl1 b hb
    refine ⟨by omega, by omega, fun h4 => ?_⟩
    simp only [e0, bys, List.flatMap_nil, List.append_nil] at h4
    have h5 := hL.so b (own_of h4)
    rcases hb with rfl | rfl | rfl | hb
    · omega
    · omega
    · omega
    · exact hL.pd b (own_of hb) (own_of h4)
  · intro b hb
    simp only [e0, List.append_nil, List.mem_cons] at hb
    have g0 := hL.g0
    have p0 := hL.p0
    rcases hb with rfl | rfl | rfl | rfl | rfl | hb
    · omega
    · omega
    · omega
    · omega
    · omega
    · have := hL.po b (own_of hb); omega

end Go.Proofs.YtjdbefpfjhdmoaaGreatDoor.Sh
end

section
namespace Go.Proofs.YtjdbefpfjhdmoaaGreatDoor.showLetters
open Go.Proofs.YtjdbefpfjhdmoaaGreatDoor.ZGE
open Go.ChangeShapes Go.WideShapes Go.ChangeAt Go.RowKit
open Go.Proofs.YtjdbefpfjhdmoaaGreatDoor.Gs Go.Proofs.YtjdbefpfjhdmoaaGreatDoor.Sh Go.Proofs.YtjdbefpfjhdmoaaGreatDoor.Font
open Go.Proofs.YtjdbefpfjhdmoaaGreatDoor.FixM (fits)
open Go.Proofs.YtjdbefpfjhdmoaaGreatDoor.MatM (M6)
set_option linter.unusedVariables false
set_option linter.unusedSimpArgs false

theorem info5 : (Tryz.prog.info? 5).map (fun i => (i.zero, i.size, i.bytes)) = some (some (.int .u8 0), 1, 1) := by kernel_rfl
theorem wpList_load_RowG {ops : Array Oper} {rest : List Oper} {o : Oper} {a : Act} {w : World} {Q : Exit → Act → World → Prop} (ty : TypeId) (x : Operand) (ho : o.op = .load ty x) (hw : Region.wanted o (yielded ops a.tmps) = true)
    (b : Nat) (hx : a.eval x = .pointer (some ⟨b, 0, none⟩)) (cs : Array Value) (h : Row w b cs) (d : TypeDesc) (hu : Tryz.prog.underlying ty = some d) (hd : d.isRow = true) {n : Nat} (hi : (Tryz.prog.info? ty).map (·.size) = some n) (hs : cs.size = n)
    (hk : wpList Tryz.prog ops Q rest (a.put o.dst (.agg cs)) w) : wpList Tryz.prog ops Q (o :: rest) a w :=
  wpList_step fun K hK => by
    rw [if_pos hw]
    exact wp_load_mid ty x ho b 0 hx cs.toList d (rng0 h) hu hd (by rw [Array.length_toList, hs]; exact hi) (by rw [Array.toArray_toList]; exact hK _ _ hk)
theorem chk_fits {m : M6} (h : chk (lM m) = 0) : fits m.x = true ∧ fits m.y = true := by
  unfold chk lM at h
  split at h
  · cases h
  · rename_i h1
    simp only [List.any_cons, List.any_nil, Bool.or_false, Bool.or_eq_true, Bool.not_eq_true', not_or, Bool.not_eq_false] at h1
    exact ⟨h1.2.2.2.2.1, h1.2.2.2.2.2⟩
theorem ctm_wf {ct C : M6} (h : (if chk (lM ct) = 0 then ct else idM) = C) : (Lit.int .i64 C.x).wf = true ∧ (Lit.int .i64 C.y).wf = true := by
  subst h
  split
  · rename_i h1
    exact ⟨Mat.fits_wf (chk_fits h1).1, Mat.fits_wf (chk_fits h1).2⟩
  · exact ⟨by decide, by decide⟩
theorem font_lt {ft F : Int} {fx : M6} (h : (if sfE ft fx = 0 then ft else -1) = F) : F < 14 := by
  subst h
  split
  · rename_i h1
    unfold sfE at h1
    split at h1
    · split at h1
      · omega
      · cases h1
    · cases h1
  · decide
theorem ints_slice {k : IntKind} {w : World} {v : Value} {zs : List Int} {N : Nat} (h : Ints k w v zs) (hN : zs.length = N) : ∃ a c, v = .slice a N c := by
  obtain ⟨ao, c, rfl, _⟩ := h
  exact ⟨ao, c, by rw [hN]⟩
/-- what the comparison wants of both -/
theorem agree_of {w0 w : World} {g p c s m : Nat} {C : M6} {F : Int} {FM : M6} {dk : Bool} {n : Int} {pv v : Value} {T : PathM.St} {va ra : Option Addr} {vc rc N : Nat} {l1 l2 : List Cl} (h : Two w0 w g p c s m C F FM dk n pv v (.slice va T.l.length vc) (.slice ra N rc) T T l1 l2) (hN : l2.length = N) (he : l1.map (·.it) = l2.map (·.it)) (hl : N ≤ 100000) (hb : ∀ k ∈ l1, k.it.bs.length ≤ 1000000) :
    Calls Tryz.prog 9 #[.pointer (some ⟨g, 0, none⟩), .pointer (some ⟨c, 0, none⟩), .agg (rsC C F FM dk n (.slice va T.l.length vc)), .agg #[.int .i64 6553600, .int .i64 6553600, .slice ra N rc, .int .i64 2, .slice none 0 0]] w fun E w' => E = .returned (.bool true) ∧ Up w w' :=
  agreeL_calls g c p N pv v C F FM dk n T va ra vc rc l1 l2 w h.prg.rg h.prg.pa h.prg.cv h.ref.sg hN h.ref.its h.ref.bytes he h.prg.lb hl hb
theorem its_le {l : List Cl} {a b : List It} {q : Nat} (h : l.map (·.it) = a ++ b) (ha : a.length ≤ q) (hb : b.length ≤ 1) : l.length ≤ q + 1 := by
  have := congrArg List.length h
  simp only [List.length_map, List.length_append] at this
  omega
theorem its_bs {l : List Cl} {a b : List It} {q : Nat} (h : l.map (·.it) = a ++ b) (ha : ∀ i ∈ a, i.bs.length ≤ q) (hb : ∀ i ∈ b, i.bs.length ≤ q) : ∀ k ∈ l, k.it.bs.length ≤ q := fun k hk => by
  have h1 : k.it ∈ a ++ b := h ▸ List.mem_map_of_mem hk
  rcases List.mem_append.1 h1 with h2 | h2
  · exact ha _ h2
  · exact hb _ h2

theorem ints_len {k : IntKind} {w : World} {a : Option Addr} {len c : Nat} {zs : List Int} (h : Ints k w (.slice a len c) zs) : zs.length = len := by
  obtain ⟨ao, c', e, _⟩ := h
  injection e with _ e2 _
  exact e2.symm
set_option maxRecDepth 8000 in
theorem walk_far (ct fx : M6) (ft x y : Int) (pl dk : Bool) (sg : Int) (hsg : 0 ≤ sg) (a : Option Addr) (len cap : Nat) (z : List Int) (a2 : Option Addr) (len2 cap2 : Nat) (zb : List Int) {w : World} (hz : IsRow .u8 w a len cap z) (hz2 : IsRow .u8 w a2 len2 cap2 zb) (hT : Font.Tab w) (h3 : ¬ len ≤ 2000) :
    Calls Tryz.prog 3 #[.agg #[.int .i64 ct.a, .int .i64 ct.b, .int .i64 ct.c, .int .i64 ct.d, .int .i64 ct.x, .int .i64 ct.y, .int .i64 fx.a, .int .i64 fx.b, .int .i64 fx.c, .int .i64 fx.d, .int .i64 fx.x, .int .i64 fx.y, .int .i64 ft, .int .i64 x, .int .i64 y, .bool pl, .bool dk, .int .u8 sg], .slice a len cap, .slice a2 len2 cap2] w fun e w' => e = .returned (.bool true) ∧ Up w w' := by
  have t0 : decide ((2000 : Int) < (len : Int)) = true := decide_eq_true (by omega)
  have HT := Lib.hid hT
  clear hz hz2 hT
  go_enter Tryz.func3, Tryz.ntmps3
  go_wp2_with (go_at_call 5; ((with_reducible refine (answers_calls _ (HT.out.up (by exact ua))).mono ?_); rintro E w1 ⟨rfl, hu1⟩))
  go_ret
  exact ⟨rfl, by exact ua⟩

set_option maxRecDepth 8000 in
theorem walk_far2 (ct fx : M6) (ft x y : Int) (pl dk : Bool) (sg : Int) (hsg : 0 ≤ sg) (a : Option Addr) (len cap : Nat) (z : List Int) (a2 : Option Addr) (len2 cap2 : Nat) (zb : List Int) {w : World} (hz : IsRow .u8 w a len cap z) (hz2 : IsRow .u8 w a2 len2 cap2 zb) (hT : Font.Tab w) (h3 : len ≤ 2000 ∧ ¬ len2 ≤ 2000) :
    Calls Tryz.prog 3 #[.agg #[.int .i64 ct.a, .int .i64 ct.b, .int .i64 ct.c, .int .i64 ct.d, .int .i64 ct.x, .int .i64 ct.y, .int .i64 fx.a, .int .i64 fx.b, .int .i64 fx.c, .int .i64 fx.d, .int .i64 fx.x, .int .i64 fx.y, .int .i64 ft, .int .i64 x, .int .i64 y, .bool pl, .bool dk, .int .u8 sg], .slice a len cap, .slice a2 len2 cap2] w fun e w' => e = .returned (.bool true) ∧ Up w w' := by
  have t0 : decide ((2000 : Int) < (len : Int)) = false := decide_eq_false (by omega)
  have t2 : decide ((2000 : Int) < (len2 : Int)) = true := decide_eq_true (by omega)
  have HT := Lib.hid hT
  clear hz hz2 hT
  go_enter Tryz.func3, Tryz.ntmps3
  go_wp2_with (go_at_call 5; ((with_reducible refine (answers_calls _ (HT.out.up (by exact ua))).mono ?_); rintro E w1 ⟨rfl, hu1⟩))
  go_ret
  exact ⟨rfl, by exact ua⟩

theorem at_op {P : Program} {ops : Array Oper} {rest : List Oper} {o : Oper} {a : Act} {w : World} {Q : Exit → Act → World → Prop} (op : Op) (ho : o.op = op) (h : wpList P ops Q (o :: rest) a w) : wpList P ops Q (o :: rest) a w := h
theorem infoSet : (Tryz.prog.info? 26).map (·.size) = some 18 := by kernel_rfl
theorem lies_up {w0 w1 : World} {g p c : Nat} {pv v : Value} (h : Lies w1 g p c pv v) (hu : Up w0 w1) : Lies w0 g p c pv v :=
  ⟨Nat.le_trans hu.size h.g0, Nat.le_trans hu.size h.p0, h.pg, h.gc, h.pc, h.po, h.so, h.pd⟩
set_option maxRecDepth 8000 in
set_option maxHeartbeats 8000000 in
theorem walk_near (ct fx : M6) (ft x y : Int) (pl dk : Bool) (sg : Int) (hsg : 0 ≤ sg) (a : Option Addr) (len cap : Nat) (z : List Int) (a2 : Option Addr) (len2 cap2 : Nat) (zb : List Int) {w : World} (hz : IsRow .u8 w a len cap z) (hz2 : IsRow .u8 w a2 len2 cap2 zb) (hT : Font.Tab w) (h3 : len ≤ 2000) (h4 : len2 ≤ 2000) :
    Calls Tryz.prog 3 #[.agg #[.int .i64 ct.a, .int .i64 ct.b, .int .i64 ct.c, .int .i64 ct.d, .int .i64 ct.x, .int .i64 ct.y, .int .i64 fx.a, .int .i64 fx.b, .int .i64 fx.c, .int .i64 fx.d, .int .i64 fx.x, .int .i64 fx.y, .int .i64 ft, .int .i64 x, .int .i64 y, .bool pl, .bool dk, .int .u8 sg], .slice a len cap, .slice a2 len2 cap2] w fun e w' => e = .returned (.bool true) ∧ Up w w' := by
  obtain ⟨i0, hi, hz0, hz1, hz2'⟩ := info_parts info5
  have t0 : decide ((2000 : Int) < (len : Int)) = false := decide_eq_false (by omega)
  have t2 : decide ((2000 : Int) < (len2 : Int)) = false := decide_eq_false (by omega)
  have HT := Lib.hid hT
  have HZ := Lib.hid hz
  have HZ2 := Lib.hid hz2
  have HWZ := Lib.hid hz.ints.wf
  have HWZ2 := Lib.hid hz2.ints.wf
  have HLNZ := Lib.hid (show (z.take len).length = len from ints_len hz.ints)
  have HLNZ2 := Lib.hid (show (zb.take len2).length = len2 from ints_len hz2.ints)
  have hcap := hz.le
  have hcap2 := hz2.le
  clear hz hz2 hT
  obtain ⟨n, hn⟩ : ∃ n, sg % 10 + 1 = n := ⟨_, rfl⟩
  go_enter Tryz.func3, Tryz.ntmps3
  go_upto_if 51 with (first
    | ((refine at_op (.load 26 (.tmp 3)) rfl ?_); refine wpList_load_Row rfl 26 (.tmp 3) rfl w.heap.size rfl #[.int .i64 ct.a, .int .i64 ct.b, .int .i64 ct.c, .int .i64 ct.d, .int .i64 ct.x, .int .i64 ct.y, .int .i64 fx.a, .int .i64 fx.b, .int .i64 fx.c, .int .i64 fx.d, .int .i64 fx.x, .int .i64 fx.y, .int .i64 ft, .int .i64 x, .int .i64 y, .bool pl, .bool dk, .int .u8 sg] _ (by exact ra) Tryz.underlying26 rfl infoSet rfl ?_)
    | (go_at_call 6; ((with_reducible refine (open_callsX ct fx ft x y pl dk sg n hsg hn _ (HT.out.up (by exact ua))).mono ?_); rintro E w1 ⟨g, p, c, pv, v, C, F, FM, T, hC, hF, hFM, hTT, rfl, hg1, hp1, hc1, hs1, hu1, hL1⟩; (obtain ⟨q, rfl, hq⟩ := to_of (by omega) hTT); (obtain ⟨va, vc, rfl⟩ := Path.Segs.val hs1); have HCW := Lib.hid (ctm_wf hC); have HF1 := Lib.hid (font_lt hF); have HFQ := Lib.hid hq; have HG1 := Lib.hid hg1; have HP1 := Lib.hid hp1; have HC1 := Lib.hid hc1; have HS1 := Lib.hid hs1; have HL1 := Lib.hid hL1; clear hC hF hFM hTT hg1 hp1 hc1 hs1 hL1 hq; have z1 := hu1.size; (try simp at z1)))
    | ((refine at_op (.store 42 (.tmp 9) _) rfl ?_); (refine wpList_store_Row rfl 42 (.tmp 9) _ rfl w1.heap.size (rsC C F FM dk n (.slice va (TO n q).l.length vc)) rfl rfl #[.int .i64 0, .int .i64 0, .int .i64 0, .int .i64 0, .int .i64 0, .int .i64 0, .int .i64 0, .int .i64 0, .int .i64 0, .int .i64 0, .int .i64 0, .int .i64 0, .int .i64 0, .int .i64 0, .int .i64 0, .slice none 0 0, .int .i64 0, .int .i64 0, .int .i64 0, .int .i64 0, .int .i64 0, .int .i64 0, .int .i64 0, .int .i64 0, .slice none 0 0, .bool false, .int .i64 0, .slice none 0 0] (by exact ra) infoRs rfl rfl (by simp [rsC, Value.oneCell']) ?_); intro w2 hr2 hc2; have z2 := hc2.size; (try simp at z2))
    | ((refine at_op (.store 48 (.tmp 10) _) rfl ?_); (refine wpList_store_Row rfl 48 (.tmp 10) _ rfl (w1.heap.size + 1) #[.int .i64 6553600, .int .i64 6553600, .slice none 0 0, .int .i64 2, .slice none 0 0] rfl rfl #[.int .i64 0, .int .i64 0, .slice none 0 0, .int .i64 0, .slice none 0 0] (by exact ra) infoCv rfl rfl (by simp [Value.oneCell']) ?_); intro w3 hr3 hc3; have z3 := hc3.size; (try simp at z3); have HT3 := Lib.hid (Two.first (w0 := w) (s := w1.heap.size) (m := w1.heap.size + 1) HG1.out HP1.out HC1.out HS1.out (lies_up HL1.out (by exact ua)) (show Up w w1 by exact ua) (show Up w1 w3 from (show Chg [] w1 w3 by (repeat' (first | (with_reducible first | exact Chg.refl _ _ | assumption | refine Chg.alloc ?_ _ | refine Chg.drew ?_ | refine Chg.drewN ?_ _ | refine Chg.setCell ?_ ?_ _ | refine Chg.upc ?_ (by assumption) | refine Chg.call ?_ (by assumption) ?_) | (refine Or.inl ?_; (simp; done)) | (simp; done) | (simp; omega) | omega))).up) (Nat.le_refl _) (Nat.le_succ _) (by omega) (hr2.chg hc3 (by simp)) hr3); have U3 := Lib.hid HT3.out.up; have lz3 : w.heap.size ≤ w3.heap.size := U3.out.size)
    | (at_builtin; go_loud (refine wpList_append_any rfl _ _ 27 rfl 0 5 i0 (.int .u8 0) 1 1 Tryz.underlying27 hi hz0 hz1 hz2' rfl (by decide) (.slice (some ⟨w3.heap.size, 0, none⟩) 0 0) 0 [] rfl (ownsRow_empty w3 0 _ (Nat.zero_le _)) a len cap _ rfl HZ.out.newsLen HZ.out.none (HZ.out.news (Up.alloc HT3.out.up _)) (ints_oneCell _ _) (by unfold maxLen; omega) (by omega) (Nat.zero_le _) ?_; intro v4 w4 hown hgr hnil; have hu4 : Up w3 w4 := grown_up (Up.alloc (Up.refl w3) _) hgr (fun k0 hk0 => by have h4 : w3.heap.size = k0 := (by injection hk0); omega); have HI4 : Hid (Ints .u8 w4 v4 (z.take len)) := Lib.hid (owns_ints (by simpa using hown) HWZ.out); (obtain ⟨a4, c4, e4⟩ := ints_slice HI4.out HLNZ.out); subst e4; have z4 := hu4.size; clear hown hgr hnil))
    | (go_at_call 7; go_loud ((with_reducible refine (show_any w _ g p c w1.heap.size (w1.heap.size + 1) C F FM dk n _ _ _ _ q _ [] [] (HT3.out.chg hu4) HFQ.out a4 c4 len (z.take len) HLNZ.out HI4.out (by omega) (by simp) HF1.out HCW.out.1 HCW.out.2 (HT.out.up (Up.call U3.out hu4))).mono ?_); (obtain ⟨K5, hK5⟩ : ∃ K, (stepR C F FM dk q (z.take len)).1 = K := ⟨_, rfl⟩); (obtain ⟨q5, hq5⟩ : ∃ K, (stepR C F FM dk q (z.take len)).2.1 = K := ⟨_, rfl⟩); rw [hK5]; rintro E w5 ⟨rfl, pv5, v5, l5, ht5, hi5⟩; rw [hq5] at ht5; have HK5 := Lib.hid hK5; have HQ5 := Lib.hid hq5; have HT5 := Lib.hid ht5; have HI5L := Lib.hid hi5; clear hK5 hq5 ht5 hi5; have z5 := (HT5.out.up).size))
    | (go_at_call 8; go_loud ((with_reducible refine (rlet_any w _ g p c w1.heap.size (w1.heap.size + 1) C F FM dk n _ _ _ _ q _ l5 [] HT5.out a cap len (z.take len) HLNZ.out (HZ.out.ints.up HT5.out.up) (by omega) (by simp)).mono ?_); rw [HK5.out, HQ5.out]; rintro E w6 ⟨rfl, vl6, rv6, l6, ht6, hi6⟩; (obtain ⟨va6, vc6, rfl⟩ := Path.Segs.val ht6.ref.sg); (obtain ⟨ra6, rc6, rfl⟩ := owned_val ht6.ref.its); have HT6 := Lib.hid ht6; have HI6L := Lib.hid hi6; clear ht6 hi6; have z6 := (HT6.out.up).size; skip))
    | (go_at_call 5; go_loud ((with_reducible refine (answers_calls _ (HT.out.up HT6.out.up)).mono ?_); rintro E w7 ⟨rfl, hu7⟩; have z7 := hu7.size; have HT7 := Lib.hid (HT6.out.chg hu7); have RS7 := HT7.out.ref.rs; have RM7 : Row w7 (w1.heap.size + 1) #[.int .i64 6553600, .int .i64 6553600, .slice ra6 l6.length rc6, .int .i64 2, .slice none 0 0] := HT7.out.ref.rm; have c7_0 : w7.cell? ⟨w1.heap.size + 1, 0, none⟩ = some (.int .i64 6553600) := RM7.cell 0 rfl; have c7_1 : w7.cell? ⟨w1.heap.size + 1, 1, none⟩ = some (.int .i64 6553600) := RM7.cell 1 rfl; have c7_2 : w7.cell? ⟨w1.heap.size + 1, 2, none⟩ = some (.slice ra6 l6.length rc6) := RM7.cell 2 rfl; have c7_3 : w7.cell? ⟨w1.heap.size + 1, 3, none⟩ = some (.int .i64 2) := RM7.cell 3 rfl; have c7_4 : w7.cell? ⟨w1.heap.size + 1, 4, none⟩ = some (.slice none 0 0) := RM7.cell 4 rfl))
    | ((refine at_op (.load 42 (.tmp 9)) rfl ?_); refine wpList_load_RowG 42 (.tmp 9) rfl (by rfl) w1.heap.size rfl (rsC C F FM dk n (.slice va6 (TO n q5).l.length vc6)) RS7 _ Tryz.underlying42 rfl infoRs rfl ?_)
    | (go_at_call 9; go_loud ((with_reducible refine (agree_of HT7.out rfl (HI5L.out.trans HI6L.out.symm) (by have := its_le HI6L.out (q := 0) (by simp) (step_its ..).1; omega) (its_bs HI5L.out (by simp) (fun i hi => by rw [(step_its ..).2 i hi]; have := HLNZ.out; omega))).mono ?_); rintro E w8 ⟨rfl, hu8⟩; have z8 := hu8.size; have HT8 := Lib.hid (HT7.out.chg hu8))))
  go_cut [] from 13 (fun wx => Hid (Two w wx g p c w1.heap.size (w1.heap.size + 1) C F FM dk n pv5 v5 (.slice va6 (TO n q5).l.length vc6) (.slice ra6 l6.length rc6) (TO n q5) (TO n q5) l5 l6))
  case first =>
    go_wp2
    all_goals go_meet
    case rel => exact HT8
  case rest =>
    rename World => wc
    have HTC := Lib.hid hcut.out
    have hzc := HTC.out.up.size
    clear hcut RS7 RM7 c7_0 c7_1 c7_2 c7_3 c7_4 hr2 hr3 hc2 hc3
    go_wp2_with (first
      | (at_builtin; go_loud (refine wpList_append_any rfl _ _ 27 rfl 0 5 i0 (.int .u8 0) 1 1 Tryz.underlying27 hi hz0 hz1 hz2' rfl (by decide) (.slice (some ⟨wc.heap.size, 0, none⟩) 0 0) 0 [] rfl (ownsRow_empty wc 0 _ (Nat.zero_le _)) a2 len2 cap2 _ rfl HZ2.out.newsLen HZ2.out.none (HZ2.out.news (Up.alloc HTC.out.up _)) (ints_oneCell _ _) (by unfold maxLen; omega) (by omega) (Nat.zero_le _) ?_; intro v9 w9 hown hgr hnil; have hu9 : Up wc w9 := grown_up (Up.alloc (Up.refl wc) _) hgr (fun k0 hk0 => by have h4 : wc.heap.size = k0 := (by injection hk0); omega); have HI9 : Hid (Ints .u8 w9 v9 (zb.take len2)) := Lib.hid (owns_ints (by simpa using hown) HWZ2.out); (obtain ⟨a9, c9, e9⟩ := ints_slice HI9.out HLNZ2.out); subst e9; have z9 := hu9.size; clear hown hgr hnil))
      | (go_at_call 7; go_loud ((with_reducible refine (show_any w _ g p c w1.heap.size (w1.heap.size + 1) C F FM dk n _ _ _ _ q5 _ l5 l6 (HTC.out.chg hu9) (by have h1 := step_fits (C := C) (F := F) (FM := FM) (dk := dk) (bs := z.take len) HFQ.out; rw [HQ5.out] at h1; exact h1) a9 c9 len2 (zb.take len2) HLNZ2.out HI9.out (by omega) (by have := its_le HI5L.out (q := 0) (by simp) (step_its ..).1; omega) HF1.out HCW.out.1 HCW.out.2 (HT.out.up (Up.call HTC.out.up hu9))).mono ?_); (obtain ⟨K10, hK10⟩ : ∃ K, (stepR C F FM dk q5 (zb.take len2)).1 = K := ⟨_, rfl⟩); (obtain ⟨q10, hq10⟩ : ∃ K, (stepR C F FM dk q5 (zb.take len2)).2.1 = K := ⟨_, rfl⟩); rw [hK10]; rintro E w10 ⟨rfl, pv10, v10, l10, ht10, hi10⟩; rw [hq10] at ht10; have HK10 := Lib.hid hK10; have HQ10 := Lib.hid hq10; have HT10 := Lib.hid ht10; have HI10L := Lib.hid hi10; clear hK10 hq10 ht10 hi10; have z10 := (HT10.out.up).size))
      | (go_at_call 8; go_loud ((with_reducible refine (rlet_any w _ g p c w1.heap.size (w1.heap.size + 1) C F FM dk n _ _ _ _ q5 _ l10 l6 HT10.out a2 cap2 len2 (zb.take len2) HLNZ2.out (HZ2.out.ints.up HT10.out.up) (by omega) (by have := its_le HI6L.out (q := 0) (by simp) (step_its ..).1; omega)).mono ?_); rw [HK10.out, HQ10.out]; rintro E w11 ⟨rfl, vl11, rv11, l11, ht11, hi11⟩; (obtain ⟨va11, vc11, rfl⟩ := Path.Segs.val ht11.ref.sg); (obtain ⟨ra11, rc11, rfl⟩ := owned_val ht11.ref.its); have HT11 := Lib.hid ht11; have HI11L := Lib.hid hi11; clear ht11 hi11; have z11 := (HT11.out.up).size; have RS11 := HT11.out.ref.rs; have RM11 : Row w11 (w1.heap.size + 1) #[.int .i64 6553600, .int .i64 6553600, .slice ra11 l11.length rc11, .int .i64 2, .slice none 0 0] := HT11.out.ref.rm; have c11_0 : w11.cell? ⟨w1.heap.size + 1, 0, none⟩ = some (.int .i64 6553600) := RM11.cell 0 rfl; have c11_1 : w11.cell? ⟨w1.heap.size + 1, 1, none⟩ = some (.int .i64 6553600) := RM11.cell 1 rfl; have c11_2 : w11.cell? ⟨w1.heap.size + 1, 2, none⟩ = some (.slice ra11 l11.length rc11) := RM11.cell 2 rfl; have c11_3 : w11.cell? ⟨w1.heap.size + 1, 3, none⟩ = some (.int .i64 2) := RM11.cell 3 rfl; have c11_4 : w11.cell? ⟨w1.heap.size + 1, 4, none⟩ = some (.slice none 0 0) := RM11.cell 4 rfl))
      | ((refine at_op (.load 42 (.tmp 9)) rfl ?_); refine wpList_load_RowG 42 (.tmp 9) rfl (by rfl) w1.heap.size rfl (rsC C F FM dk n (.slice va11 (TO n q10).l.length vc11)) RS11 _ Tryz.underlying42 rfl infoRs rfl ?_)
      | (go_at_call 9; go_loud ((with_reducible refine (agree_of HT11.out rfl (HI10L.out.trans ((congrArg (· ++ _) (HI5L.out.trans HI6L.out.symm)).trans HI11L.out.symm)) (by have h1 := its_le HI6L.out (q := 0) (by simp) (step_its ..).1; have := its_le HI11L.out (q := 1) (by simpa using h1) (step_its ..).1; omega) (its_bs HI10L.out (fun i hi => by have h1 := its_bs HI5L.out (q := 1000000) (by simp) (fun i hi => by rw [(step_its ..).2 i hi]; have := HLNZ.out; omega); (obtain ⟨k, hk, rfl⟩ := List.mem_map.1 hi); exact h1 k hk) (fun i hi => by rw [(step_its ..).2 i hi]; have := HLNZ2.out; omega))).mono ?_); rintro E w12 ⟨rfl, hu12⟩)))
    go_ret
    exact ⟨rfl, Up.call HT11.out.up hu12⟩

end Go.Proofs.YtjdbefpfjhdmoaaGreatDoor.showLetters
end
