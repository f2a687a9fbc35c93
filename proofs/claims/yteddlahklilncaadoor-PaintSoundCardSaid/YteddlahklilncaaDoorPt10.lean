/- The reference's SoundPage; PaintSound, walked. Its condition: the fonts' names lie as they are laid. -/
import Derived.Test.YteddlahklilncaaDoorPt7
import Derived.Test.YteddlahklilncaaDoorPt9
namespace Go.Proofs.YteddlahklilncaaDoor.Pt
open Go.ChangeShapes Go.WideShapes Go.ChangeAt Go.RowKit
open Go.Proofs.YteddlahklilncaaDoor.FixM (fits)
open Go.Proofs.YteddlahklilncaaDoor.PathM (Seg sound)
open Go.Proofs.YteddlahklilncaaDoor.MatM (M6)
set_option linter.unusedVariables false
set_option linter.unusedSimpArgs false

set_option maxRecDepth 8000 in
set_option maxHeartbeats 4000000 in
theorem rsoundPage_calls (W H : Int) (its : List Item) (a : Option Addr) (n c : Nat) (w : World) (h : Sl 22 Item.cells w a n c its) (hs : ∀ i ∈ its, i.is w) :
    Calls Tryd.prog 7 #[.agg #[.int .i64 W, .int .i64 H, .slice a n c]] w fun e w' => e = .returned (.bool (pageR W H its)) ∧ Up w w' := by
  have HN := Lib.hid h.2.2.1
  have HCC := Lib.hid h.2.2.2.2
  have HI := Lib.hid hs
  clear h hs
  obtain ⟨tW, hW⟩ : ∃ b, sideR W = b := ⟨_, rfl⟩
  cases tW
  · have HQ := Lib.hid (show pageR W H its = false by simp only [pageR, hW] <;> simp)
    go_enter Tryd.func7, Tryd.ntmps7
    go_wp2_with (first
      | (go_at_call 22; ((with_reducible refine (rside_calls W _).mono ?_); rw [hW]; rintro E w1 ⟨rfl, hu1⟩; have z1 := hu1.size; (try simp at z1); have Rw1 : Row w1 w.heap.size #[.int .i64 W, .int .i64 H, .slice a n c] := Row.up (show Row _ w.heap.size #[.int .i64 W, .int .i64 H, .slice a n c] by (repeat' (first | (with_reducible assumption) | (with_reducible refine Row.at _ _ ?_; (simp; done)) | (with_reducible refine Row.alloc ?_ _) | (with_reducible refine Row.drew ?_) | (with_reducible refine Row.drewN ?_ _) | (with_reducible refine Row.other ?_ (by first | (simp; done) | (simp; omega) | omega) _) | (with_reducible refine Row.up ?_ (by with_reducible assumption)) | (with_reducible refine Row.chg ?_ (by with_reducible assumption) (by first | (simp; done) | (simp; omega)))))) hu1; have lw1 := Rw1.lt; have qw1_0 : w1.cell? ⟨w.heap.size, 0, none⟩ = some (.int .i64 W) := Rw1.cell 0 rfl; have qw1_1 : w1.cell? ⟨w.heap.size, 1, none⟩ = some (.int .i64 H) := Rw1.cell 1 rfl; have qw1_2 : w1.cell? ⟨w.heap.size, 2, none⟩ = some (.slice a n c) := Rw1.cell 2 rfl)))
    go_ret
    exact ⟨by rw [HQ.out]; rfl, by (repeat' (first | (with_reducible exact Up.refl _) | (with_reducible assumption) | (with_reducible refine Up.alloc ?_ _) | (with_reducible refine Up.drew ?_) | (with_reducible refine Up.drewN ?_ _) | (with_reducible refine Up.setCell ?_ ?_ _) | (with_reducible refine Up.call ?_ (by with_reducible assumption)) | go_size))⟩
  obtain ⟨tH, hH⟩ : ∃ b, sideR H = b := ⟨_, rfl⟩
  cases tH
  · have HQ := Lib.hid (show pageR W H its = false by simp only [pageR, hW, hH] <;> simp)
    go_enter Tryd.func7, Tryd.ntmps7
    go_wp2_with (first
      | (go_at_call 22; ((with_reducible refine (rside_calls W _).mono ?_); rw [hW]; rintro E w1 ⟨rfl, hu1⟩; have z1 := hu1.size; (try simp at z1); have Rw1 : Row w1 w.heap.size #[.int .i64 W, .int .i64 H, .slice a n c] := Row.up (show Row _ w.heap.size #[.int .i64 W, .int .i64 H, .slice a n c] by (repeat' (first | (with_reducible assumption) | (with_reducible refine Row.at _ _ ?_; (simp; done)) | (with_reducible refine Row.alloc ?_ _) | (with_reducible refine Row.drew ?_) | (with_reducible refine Row.drewN ?_ _) | (with_reducible refine Row.other ?_ (by first | (simp; done) | (simp; omega) | omega) _) | (with_reducible refine Row.up ?_ (by with_reducible assumption)) | (with_reducible refine Row.chg ?_ (by with_reducible assumption) (by first | (simp; done) | (simp; omega)))))) hu1; have lw1 := Rw1.lt; have qw1_0 : w1.cell? ⟨w.heap.size, 0, none⟩ = some (.int .i64 W) := Rw1.cell 0 rfl; have qw1_1 : w1.cell? ⟨w.heap.size, 1, none⟩ = some (.int .i64 H) := Rw1.cell 1 rfl; have qw1_2 : w1.cell? ⟨w.heap.size, 2, none⟩ = some (.slice a n c) := Rw1.cell 2 rfl))
      | (go_at_call 22; ((with_reducible refine (rside_calls H _).mono ?_); rw [hH]; rintro E w2 ⟨rfl, hu2⟩; have z2 := hu2.size; (try simp at z2); have Rw2 : Row w2 w.heap.size #[.int .i64 W, .int .i64 H, .slice a n c] := Row.up (show Row _ w.heap.size #[.int .i64 W, .int .i64 H, .slice a n c] by (repeat' (first | (with_reducible assumption) | (with_reducible refine Row.at _ _ ?_; (simp; done)) | (with_reducible refine Row.alloc ?_ _) | (with_reducible refine Row.drew ?_) | (with_reducible refine Row.drewN ?_ _) | (with_reducible refine Row.other ?_ (by first | (simp; done) | (simp; omega) | omega) _) | (with_reducible refine Row.up ?_ (by with_reducible assumption)) | (with_reducible refine Row.chg ?_ (by with_reducible assumption) (by first | (simp; done) | (simp; omega)))))) hu2; have lw2 := Rw2.lt; have qw2_0 : w2.cell? ⟨w.heap.size, 0, none⟩ = some (.int .i64 W) := Rw2.cell 0 rfl; have qw2_1 : w2.cell? ⟨w.heap.size, 1, none⟩ = some (.int .i64 H) := Rw2.cell 1 rfl; have qw2_2 : w2.cell? ⟨w.heap.size, 2, none⟩ = some (.slice a n c) := Rw2.cell 2 rfl)))
    go_ret
    exact ⟨by rw [HQ.out]; rfl, by (repeat' (first | (with_reducible exact Up.refl _) | (with_reducible assumption) | (with_reducible refine Up.alloc ?_ _) | (with_reducible refine Up.drew ?_) | (with_reducible refine Up.drewN ?_ _) | (with_reducible refine Up.setCell ?_ ?_ _) | (with_reducible refine Up.call ?_ (by with_reducible assumption)) | go_size))⟩
  by_cases hn : n ≤ 4096
  rotate_left
  · have hcast : decide ((4096 : Int) < (n : Int)) = true := decide_eq_true (by omega)
    have HN2 := Lib.hid (show decide (its.length ≤ 4096) = false from decide_eq_false (by have := HN.out; omega))
    have HQ := Lib.hid (show pageR W H its = false by simp only [pageR, hW, hH, HN2.out] <;> simp)
    go_enter Tryd.func7, Tryd.ntmps7
    go_wp2_with (first
      | (go_at_call 22; ((with_reducible refine (rside_calls W _).mono ?_); rw [hW]; rintro E w1 ⟨rfl, hu1⟩; have z1 := hu1.size; (try simp at z1); have Rw1 : Row w1 w.heap.size #[.int .i64 W, .int .i64 H, .slice a n c] := Row.up (show Row _ w.heap.size #[.int .i64 W, .int .i64 H, .slice a n c] by (repeat' (first | (with_reducible assumption) | (with_reducible refine Row.at _ _ ?_; (simp; done)) | (with_reducible refine Row.alloc ?_ _) | (with_reducible refine Row.drew ?_) | (with_reducible refine Row.drewN ?_ _) | (with_reducible refine Row.other ?_ (by first | (simp; done) | (simp; omega) | omega) _) | (with_reducible refine Row.up ?_ (by with_reducible assumption)) | (with_reducible refine Row.chg ?_ (by with_reducible assumption) (by first | (simp; done) | (simp; omega)))))) hu1; have lw1 := Rw1.lt; have qw1_0 : w1.cell? ⟨w.heap.size, 0, none⟩ = some (.int .i64 W) := Rw1.cell 0 rfl; have qw1_1 : w1.cell? ⟨w.heap.size, 1, none⟩ = some (.int .i64 H) := Rw1.cell 1 rfl; have qw1_2 : w1.cell? ⟨w.heap.size, 2, none⟩ = some (.slice a n c) := Rw1.cell 2 rfl))
      | (go_at_call 22; ((with_reducible refine (rside_calls H _).mono ?_); rw [hH]; rintro E w2 ⟨rfl, hu2⟩; have z2 := hu2.size; (try simp at z2); have Rw2 : Row w2 w.heap.size #[.int .i64 W, .int .i64 H, .slice a n c] := Row.up (show Row _ w.heap.size #[.int .i64 W, .int .i64 H, .slice a n c] by (repeat' (first | (with_reducible assumption) | (with_reducible refine Row.at _ _ ?_; (simp; done)) | (with_reducible refine Row.alloc ?_ _) | (with_reducible refine Row.drew ?_) | (with_reducible refine Row.drewN ?_ _) | (with_reducible refine Row.other ?_ (by first | (simp; done) | (simp; omega) | omega) _) | (with_reducible refine Row.up ?_ (by with_reducible assumption)) | (with_reducible refine Row.chg ?_ (by with_reducible assumption) (by first | (simp; done) | (simp; omega)))))) hu2; have lw2 := Rw2.lt; have qw2_0 : w2.cell? ⟨w.heap.size, 0, none⟩ = some (.int .i64 W) := Rw2.cell 0 rfl; have qw2_1 : w2.cell? ⟨w.heap.size, 1, none⟩ = some (.int .i64 H) := Rw2.cell 1 rfl; have qw2_2 : w2.cell? ⟨w.heap.size, 2, none⟩ = some (.slice a n c) := Rw2.cell 2 rfl)))
    go_ret
    exact ⟨by rw [HQ.out]; rfl, by (repeat' (first | (with_reducible exact Up.refl _) | (with_reducible assumption) | (with_reducible refine Up.alloc ?_ _) | (with_reducible refine Up.drew ?_) | (with_reducible refine Up.drewN ?_ _) | (with_reducible refine Up.setCell ?_ ?_ _) | (with_reducible refine Up.call ?_ (by with_reducible assumption)) | go_size))⟩
  have hcast : decide ((4096 : Int) < (n : Int)) = false := decide_eq_false (by omega)
  have HP := Lib.hid (show pageR W H its = its.all itemR by simp only [pageR, hW, hH, decide_eq_true (show its.length ≤ 4096 by have := HN.out; omega), Bool.true_and])
  go_enter Tryd.func7, Tryd.ntmps7
  go_wp2_with (first
    | (go_at_call 22; ((with_reducible refine (rside_calls W _).mono ?_); rw [hW]; rintro E w1 ⟨rfl, hu1⟩; have z1 := hu1.size; (try simp at z1); have Rw1 : Row w1 w.heap.size #[.int .i64 W, .int .i64 H, .slice a n c] := Row.up (show Row _ w.heap.size #[.int .i64 W, .int .i64 H, .slice a n c] by (repeat' (first | (with_reducible assumption) | (with_reducible refine Row.at _ _ ?_; (simp; done)) | (with_reducible refine Row.alloc ?_ _) | (with_reducible refine Row.drew ?_) | (with_reducible refine Row.drewN ?_ _) | (with_reducible refine Row.other ?_ (by first | (simp; done) | (simp; omega) | omega) _) | (with_reducible refine Row.up ?_ (by with_reducible assumption)) | (with_reducible refine Row.chg ?_ (by with_reducible assumption) (by first | (simp; done) | (simp; omega)))))) hu1; have lw1 := Rw1.lt; have qw1_0 : w1.cell? ⟨w.heap.size, 0, none⟩ = some (.int .i64 W) := Rw1.cell 0 rfl; have qw1_1 : w1.cell? ⟨w.heap.size, 1, none⟩ = some (.int .i64 H) := Rw1.cell 1 rfl; have qw1_2 : w1.cell? ⟨w.heap.size, 2, none⟩ = some (.slice a n c) := Rw1.cell 2 rfl))
    | (go_at_call 22; ((with_reducible refine (rside_calls H _).mono ?_); rw [hH]; rintro E w2 ⟨rfl, hu2⟩; have z2 := hu2.size; (try simp at z2); have Rw2 : Row w2 w.heap.size #[.int .i64 W, .int .i64 H, .slice a n c] := Row.up (show Row _ w.heap.size #[.int .i64 W, .int .i64 H, .slice a n c] by (repeat' (first | (with_reducible assumption) | (with_reducible refine Row.at _ _ ?_; (simp; done)) | (with_reducible refine Row.alloc ?_ _) | (with_reducible refine Row.drew ?_) | (with_reducible refine Row.drewN ?_ _) | (with_reducible refine Row.other ?_ (by first | (simp; done) | (simp; omega) | omega) _) | (with_reducible refine Row.up ?_ (by with_reducible assumption)) | (with_reducible refine Row.chg ?_ (by with_reducible assumption) (by first | (simp; done) | (simp; omega)))))) hu2; have lw2 := Rw2.lt; have qw2_0 : w2.cell? ⟨w.heap.size, 0, none⟩ = some (.int .i64 W) := Rw2.cell 0 rfl; have qw2_1 : w2.cell? ⟨w.heap.size, 1, none⟩ = some (.int .i64 H) := Rw2.cell 1 rfl; have qw2_2 : w2.cell? ⟨w.heap.size, 2, none⟩ = some (.slice a n c) := Rw2.cell 2 rfl)))
  go_loopw [3] (fun s3 wr => ∃ j : Nat, j ≤ n ∧ s3 = .int .i64 j ∧ Hid ((its.take j).all itemR = true) ∧ Hid (Row wr w.heap.size #[.int .i64 W, .int .i64 H, .slice a n c]) ∧ Up w wr) (fun s3 _ => n - (intOf s3).toNat)
  case atStart => exact ⟨0, Nat.zero_le _, rfl, Lib.hid (by simp), Lib.hid (by (repeat' (first | (with_reducible assumption) | (with_reducible refine Row.at _ _ ?_; (simp; done)) | (with_reducible refine Row.alloc ?_ _) | (with_reducible refine Row.drew ?_) | (with_reducible refine Row.drewN ?_ _) | (with_reducible refine Row.other ?_ (by first | (simp; done) | (simp; omega) | omega) _) | (with_reducible refine Row.up ?_ (by with_reducible assumption)) | (with_reducible refine Row.chg ?_ (by with_reducible assumption) (by first | (simp; done) | (simp; omega)))))), by (repeat' (first | (with_reducible exact Up.refl _) | (with_reducible assumption) | (with_reducible refine Up.alloc ?_ _) | (with_reducible refine Up.drew ?_) | (with_reducible refine Up.drewN ?_ _) | (with_reducible refine Up.setCell ?_ ?_ _) | (with_reducible refine Up.call ?_ (by with_reducible assumption)) | go_size))⟩
  case round =>
    clear hcast
    obtain ⟨j, hj, rfl, HA, HRW, hup⟩ := hrel
    have RWR := HRW.out
    have lWR := RWR.lt
    have hz := hup.size
    have qWR_0 : wr.cell? ⟨w.heap.size, 0, none⟩ = some (.int .i64 W) := RWR.cell 0 rfl
    have qWR_1 : wr.cell? ⟨w.heap.size, 1, none⟩ = some (.int .i64 H) := RWR.cell 1 rfl
    have qWR_2 : wr.cell? ⟨w.heap.size, 2, none⟩ = some (.slice a n c) := RWR.cell 2 rfl
    by_cases hlt : j < n
    · obtain ⟨it, hx⟩ : ∃ x, its[j]? = some x := ⟨_, List.getElem?_eq_getElem (by have := HN.out; omega)⟩
      obtain ⟨b, o, rfl, hb, hc⟩ := HCC.out (by omega)
      have his := HI.out _ (List.mem_of_getElem? hx)
      have hcj := fun q u hq => hc j it q u hx hq
      obtain ⟨k, pv, l, sp, p0, p1, p2, p3, cv, cs, wd, cp, jn, mt, dv, ds, ph, fn, m, bv, bs⟩ := it
      obtain ⟨pa, pl, pc, ca, cl, cc, da, dl, dc, ba, bl, bc, e1, e2, e3, e4, hLs⟩ := item_lists his
      simp only at e1 e2 e3 e4
      subst e1 e2 e3 e4
      have HRG := Lib.hid (show w.rangeAt b (o + j * 22) #[.int .i64 k, .slice pa pl pc, .int .i64 sp, .int .i64 p0, .int .i64 p1, .int .i64 p2, .int .i64 p3, .slice ca cl cc, .int .i64 wd, .int .i64 cp, .int .i64 jn, .int .i64 mt, .slice da dl dc, .int .i64 ph, .int .i64 fn, .int .i64 m.a, .int .i64 m.b, .int .i64 m.c, .int .i64 m.d, .int .i64 m.x, .int .i64 m.y, .slice ba bl bc].toList from fun q u hq => hcj q u hq)
      have HLS := Lib.hid hLs
      have HX := Lib.hid hx
      have hcast : decide ((j : Int) < (n : Int)) = true := decide_eq_true (by omega)
      clear hc hcj hx his hLs
      have hlb : b < wr.heap.size := Nat.lt_of_lt_of_le hb hup.size
      obtain ⟨r, hr⟩ : ∃ r, itemR ⟨k, .slice pa pl pc, l, sp, p0, p1, p2, p3, .slice ca cl cc, cs, wd, cp, jn, mt, .slice da dl dc, ds, ph, fn, m, .slice ba bl bc, bs⟩ = r := ⟨_, rfl⟩
      have HR := Lib.hid ((itemR_eq k pa pl pc sp p0 p1 p2 p3 ca cl cc wd cp jn mt da dl dc ph fn m ba bl bc l cs ds bs HLS.out).symm.trans hr)
      have HR2 := Lib.hid hr
      clear hr
      cases r
      · have HQ := Lib.hid (show pageR W H its = false by
          rw [HP.out, List.all_eq_false]
          exact ⟨_, List.mem_of_getElem? HX.out, by rw [HR2.out]; decide⟩)
        go_wp2_with (first
          | ((refine wpList_load_mid rfl 36 (.tmp 30) rfl b (o + j * 22) (by first | rfl | simp) #[.int .i64 k, .slice pa pl pc, .int .i64 sp, .int .i64 p0, .int .i64 p1, .int .i64 p2, .int .i64 p3, .slice ca cl cc, .int .i64 wd, .int .i64 cp, .int .i64 jn, .int .i64 mt, .slice da dl dc, .int .i64 ph, .int .i64 fn, .int .i64 m.a, .int .i64 m.b, .int .i64 m.c, .int .i64 m.d, .int .i64 m.x, .int .i64 m.y, .slice ba bl bc].toList _ (fun q u hq => ((show Up w _ by (repeat' (first | (with_reducible exact Up.refl _) | (with_reducible assumption) | (with_reducible refine Up.alloc ?_ _) | (with_reducible refine Up.drew ?_) | (with_reducible refine Up.drewN ?_ _) | (with_reducible refine Up.setCell ?_ ?_ _) | (with_reducible refine Up.call ?_ (by with_reducible assumption)) | go_size))).cells.1 b (o + j * 22 + q) hb).trans (HRG.out q u hq)) Tryd.underlying36 rfl infoItem ?_); (try simp only [Array.toArray_toList]))
          | (go_at_call 10; ((with_reducible refine (soundItem_calls k pa pl pc sp p0 p1 p2 p3 ca cl cc wd cp jn mt da dl dc ph fn m ba bl bc l cs ds bs _ _ _ _ _ _ _ _ (HLS.out.up (by (repeat' (first | (with_reducible exact Up.refl _) | (with_reducible assumption) | (with_reducible refine Up.alloc ?_ _) | (with_reducible refine Up.drew ?_) | (with_reducible refine Up.drewN ?_ _) | (with_reducible refine Up.setCell ?_ ?_ _) | (with_reducible refine Up.call ?_ (by with_reducible assumption)) | go_size)))) rfl rfl rfl rfl rfl rfl rfl).mono ?_); rw [HR.out]; rintro E w3 ⟨rfl, hu3⟩)))
        go_ret
        exact ⟨by rw [HQ.out]; rfl, by (repeat' (first | (with_reducible exact Up.refl _) | (with_reducible assumption) | (with_reducible refine Up.alloc ?_ _) | (with_reducible refine Up.drew ?_) | (with_reducible refine Up.drewN ?_ _) | (with_reducible refine Up.setCell ?_ ?_ _) | (with_reducible refine Up.call ?_ (by with_reducible assumption)) | go_size))⟩
      · go_wp2_with (first
          | ((refine wpList_load_mid rfl 36 (.tmp 30) rfl b (o + j * 22) (by first | rfl | simp) #[.int .i64 k, .slice pa pl pc, .int .i64 sp, .int .i64 p0, .int .i64 p1, .int .i64 p2, .int .i64 p3, .slice ca cl cc, .int .i64 wd, .int .i64 cp, .int .i64 jn, .int .i64 mt, .slice da dl dc, .int .i64 ph, .int .i64 fn, .int .i64 m.a, .int .i64 m.b, .int .i64 m.c, .int .i64 m.d, .int .i64 m.x, .int .i64 m.y, .slice ba bl bc].toList _ (fun q u hq => ((show Up w _ by (repeat' (first | (with_reducible exact Up.refl _) | (with_reducible assumption) | (with_reducible refine Up.alloc ?_ _) | (with_reducible refine Up.drew ?_) | (with_reducible refine Up.drewN ?_ _) | (with_reducible refine Up.setCell ?_ ?_ _) | (with_reducible refine Up.call ?_ (by with_reducible assumption)) | go_size))).cells.1 b (o + j * 22 + q) hb).trans (HRG.out q u hq)) Tryd.underlying36 rfl infoItem ?_); (try simp only [Array.toArray_toList]))
          | (go_at_call 10; ((with_reducible refine (soundItem_calls k pa pl pc sp p0 p1 p2 p3 ca cl cc wd cp jn mt da dl dc ph fn m ba bl bc l cs ds bs _ _ _ _ _ _ _ _ (HLS.out.up (by (repeat' (first | (with_reducible exact Up.refl _) | (with_reducible assumption) | (with_reducible refine Up.alloc ?_ _) | (with_reducible refine Up.drew ?_) | (with_reducible refine Up.drewN ?_ _) | (with_reducible refine Up.setCell ?_ ?_ _) | (with_reducible refine Up.call ?_ (by with_reducible assumption)) | go_size)))) rfl rfl rfl rfl rfl rfl rfl).mono ?_); rw [HR.out]; rintro E w3 ⟨rfl, hu3⟩)))
        go_roundw
        case rel => exact ⟨j + 1, by omega, by go_num, Lib.hid (all_step HX.out HA.out HR2.out), Lib.hid (Row.up (show Row _ w.heap.size #[.int .i64 W, .int .i64 H, .slice (some ⟨b, o, none⟩) n c] by (repeat' (first | (with_reducible assumption) | (with_reducible refine Row.at _ _ ?_; (simp; done)) | (with_reducible refine Row.alloc ?_ _) | (with_reducible refine Row.drew ?_) | (with_reducible refine Row.drewN ?_ _) | (with_reducible refine Row.other ?_ (by first | (simp; done) | (simp; omega) | omega) _) | (with_reducible refine Row.up ?_ (by with_reducible assumption)) | (with_reducible refine Row.chg ?_ (by with_reducible assumption) (by first | (simp; done) | (simp; omega)))))) hu3), by (repeat' (first | (with_reducible exact Up.refl _) | (with_reducible assumption) | (with_reducible refine Up.alloc ?_ _) | (with_reducible refine Up.drew ?_) | (with_reducible refine Up.drewN ?_ _) | (with_reducible refine Up.setCell ?_ ?_ _) | (with_reducible refine Up.call ?_ (by with_reducible assumption)) | go_size))⟩
        case measure => simp [intOf]; omega
    · have hcast : decide ((j : Int) < (n : Int)) = false := decide_eq_false (by omega)
      have HQ := Lib.hid (show pageR W H its = true by
        rw [HP.out]
        have h1 := HA.out
        rwa [List.take_of_length_le (by have := HN.out; omega)] at h1)
      go_wp2
      go_ret
      exact ⟨by rw [HQ.out]; rfl, by (repeat' (first | (with_reducible exact Up.refl _) | (with_reducible assumption) | (with_reducible refine Up.alloc ?_ _) | (with_reducible refine Up.drew ?_) | (with_reducible refine Up.drewN ?_ _) | (with_reducible refine Up.setCell ?_ ?_ _) | (with_reducible refine Up.call ?_ (by with_reducible assumption)) | go_size))⟩

set_option maxRecDepth 8000 in
set_option maxHeartbeats 4000000 in
theorem paintSound_walk (W H : Int) (its : List Item) (a : Option Addr) (n c : Nat) (w : World) (h : Sl 22 Item.cells w a n c its) (hs : ∀ i ∈ its, i.is w) (hT : Font.Tab w) :
    Calls Tryd.prog 3 #[.agg #[.int .i64 W, .int .i64 H, .slice a n c]] w fun e w' => e = .returned (.bool true) ∧ Up w w' := by
  have HN := Lib.hid h.2.2.1
  have HCC := Lib.hid h.2.2.2.2
  have HS := Lib.hid h
  have HI := Lib.hid hs
  have HT := Lib.hid hT
  clear h hs hT
  go_enter Tryd.func3, Tryd.ntmps3
  go_wp2
  go_loop [3] (fun s3 => ∃ j : Nat, j ≤ n ∧ s3 = .int .i64 j) (fun s3 => n - (intOf s3).toNat)
  case atStart => exact ⟨0, Nat.zero_le _, rfl⟩
  case round =>
    obtain ⟨j, hj, rfl⟩ := hrel
    by_cases hlt : j < n
    · obtain ⟨it, hx⟩ : ∃ x, its[j]? = some x := ⟨_, List.getElem?_eq_getElem (by have := HN.out; omega)⟩
      obtain ⟨b, o, rfl, hb, hc⟩ := HCC.out (by omega)
      have his := HI.out _ (List.mem_of_getElem? hx)
      have hcj := fun q u hq => hc j it q u hx hq
      obtain ⟨k, pv, l, sp, p0, p1, p2, p3, cv, cs, wd, cp, jn, mt, dv, ds, ph, fn, m, bv, bs⟩ := it
      obtain ⟨pa, pl, pc, ca, cl, cc, da, dl, dc, ba, bl, bc, e1, e2, e3, e4, hLs⟩ := item_lists his
      simp only at e1 e2 e3 e4
      subst e1 e2 e3 e4
      have HRG := Lib.hid (show w.rangeAt b (o + j * 22) #[.int .i64 k, .slice pa pl pc, .int .i64 sp, .int .i64 p0, .int .i64 p1, .int .i64 p2, .int .i64 p3, .slice ca cl cc, .int .i64 wd, .int .i64 cp, .int .i64 jn, .int .i64 mt, .slice da dl dc, .int .i64 ph, .int .i64 fn, .int .i64 m.a, .int .i64 m.b, .int .i64 m.c, .int .i64 m.d, .int .i64 m.x, .int .i64 m.y, .slice ba bl bc].toList from fun q u hq => hcj q u hq)
      have HLS := Lib.hid hLs
      have HX := Lib.hid hx
      have hcast : decide ((j : Int) < (n : Int)) = true := decide_eq_true (by omega)
      clear hc hcj hx his hLs
      have hb1 : b < w.heap.size + 1 := Nat.lt_succ_of_lt hb
      have i1 : w.cell? ⟨b, o + j * 22 + 1, none⟩ = some (.slice pa pl pc) := HRG.out 1 _ rfl
      have i7 : w.cell? ⟨b, o + j * 22 + 7, none⟩ = some (.slice ca cl cc) := HRG.out 7 _ rfl
      have i21 : w.cell? ⟨b, o + j * 22 + 21, none⟩ = some (.slice ba bl bc) := HRG.out 21 _ rfl
      obtain ⟨b_h1, h1⟩ : ∃ b, (decide ((5000 : Int) < (pl : Int))) = b := ⟨_, rfl⟩
      cases b_h1
      rotate_left
      · go_wp2_with (go_at_call 5; ((with_reducible refine (answers_calls _).mono ?_); rintro E w1 ⟨rfl, hu1⟩))
        go_ret
        exact ⟨rfl, by (repeat' (first | (with_reducible exact Up.refl _) | (with_reducible assumption) | (with_reducible refine Up.alloc ?_ _) | (with_reducible refine Up.drew ?_) | (with_reducible refine Up.drewN ?_ _) | (with_reducible refine Up.setCell ?_ ?_ _) | (with_reducible refine Up.call ?_ (by with_reducible assumption)) | go_size))⟩
      obtain ⟨b_h2, h2⟩ : ∃ b, (decide ((70000 : Int) < (bl : Int))) = b := ⟨_, rfl⟩
      cases b_h2
      rotate_left
      · go_wp2_with (go_at_call 5; ((with_reducible refine (answers_calls _).mono ?_); rintro E w1 ⟨rfl, hu1⟩))
        go_ret
        exact ⟨rfl, by (repeat' (first | (with_reducible exact Up.refl _) | (with_reducible assumption) | (with_reducible refine Up.alloc ?_ _) | (with_reducible refine Up.drew ?_) | (with_reducible refine Up.drewN ?_ _) | (with_reducible refine Up.setCell ?_ ?_ _) | (with_reducible refine Up.call ?_ (by with_reducible assumption)) | go_size))⟩
      obtain ⟨b_h3, h3⟩ : ∃ b, (decide ((30 : Int) < (cl : Int))) = b := ⟨_, rfl⟩
      cases b_h3
      rotate_left
      · go_wp2_with (go_at_call 5; ((with_reducible refine (answers_calls _).mono ?_); rintro E w1 ⟨rfl, hu1⟩))
        go_ret
        exact ⟨rfl, by (repeat' (first | (with_reducible exact Up.refl _) | (with_reducible assumption) | (with_reducible refine Up.alloc ?_ _) | (with_reducible refine Up.drew ?_) | (with_reducible refine Up.drewN ?_ _) | (with_reducible refine Up.setCell ?_ ?_ _) | (with_reducible refine Up.call ?_ (by with_reducible assumption)) | go_size))⟩
      obtain ⟨b_h4, h4⟩ : ∃ b, (decide ((50 : Int) < (n : Int))) = b := ⟨_, rfl⟩
      cases b_h4
      rotate_left
      · go_wp2_with (go_at_call 5; ((with_reducible refine (answers_calls _).mono ?_); rintro E w1 ⟨rfl, hu1⟩))
        go_ret
        exact ⟨rfl, by (repeat' (first | (with_reducible exact Up.refl _) | (with_reducible assumption) | (with_reducible refine Up.alloc ?_ _) | (with_reducible refine Up.drew ?_) | (with_reducible refine Up.drewN ?_ _) | (with_reducible refine Up.setCell ?_ ?_ _) | (with_reducible refine Up.call ?_ (by with_reducible assumption)) | go_size))⟩
      have hn50 : n ≤ 50 := by have := h4; simp at this; omega
      go_wp2
      go_roundw
      case rel => exact ⟨j + 1, by omega, by go_num⟩
      case measure => simp [intOf]; omega
    · have hcast : decide ((j : Int) < (n : Int)) = false := decide_eq_false (by omega)
      go_wp2
      go_region_held3 (fun w' => w'.cell? ⟨w.heap.size, 0, none⟩ = some (.int .i64 W) ∧ w'.cell? ⟨w.heap.size, 1, none⟩ = some (.int .i64 H) ∧ w'.cell? ⟨w.heap.size, 2, none⟩ = some (.slice a n c)) (first | with_reducible exact ⟨qw3_0, qw3_1, qw3_2⟩ | with_reducible exact ⟨qw2_0, qw2_1, qw2_2⟩ | with_reducible exact ⟨qw1_0, qw1_1, qw1_2⟩ | (refine ⟨?_, ?_, ?_⟩ <;> simp) | go_keep) (first
        | (go_at_call 5; ((with_reducible refine (answers_calls _).mono ?_); rintro E w1 ⟨rfl, hu1⟩; have z1 := hu1.size; (try simp at z1); have Rw1 : Row w1 w.heap.size #[.int .i64 W, .int .i64 H, .slice a n c] := Row.up (show Row _ w.heap.size #[.int .i64 W, .int .i64 H, .slice a n c] by (repeat' (first | (with_reducible assumption) | (with_reducible refine Row.at _ _ ?_; (simp; done)) | (with_reducible refine Row.alloc ?_ _) | (with_reducible refine Row.drew ?_) | (with_reducible refine Row.drewN ?_ _) | (with_reducible refine Row.other ?_ (by first | (simp; done) | (simp; omega) | omega) _) | (with_reducible refine Row.up ?_ (by with_reducible assumption)) | (with_reducible refine Row.chg ?_ (by with_reducible assumption) (by first | (simp; done) | (simp; omega)))))) hu1; have lw1 := Rw1.lt; have qw1_0 : w1.cell? ⟨w.heap.size, 0, none⟩ = some (.int .i64 W) := Rw1.cell 0 rfl; have qw1_1 : w1.cell? ⟨w.heap.size, 1, none⟩ = some (.int .i64 H) := Rw1.cell 1 rfl; have qw1_2 : w1.cell? ⟨w.heap.size, 2, none⟩ = some (.slice a n c) := Rw1.cell 2 rfl))
        | (go_at_call 6; ((with_reducible refine (sound_calls W H its a n c _ (sl_up HS.out (by (repeat' (first | (with_reducible exact Up.refl _) | (with_reducible assumption) | (with_reducible refine Up.alloc ?_ _) | (with_reducible refine Up.drew ?_) | (with_reducible refine Up.drewN ?_ _) | (with_reducible refine Up.setCell ?_ ?_ _) | (with_reducible refine Up.call ?_ (by with_reducible assumption)) | go_size)))) (fun i hi => (HI.out i hi).up (by (repeat' (first | (with_reducible exact Up.refl _) | (with_reducible assumption) | (with_reducible refine Up.alloc ?_ _) | (with_reducible refine Up.drew ?_) | (with_reducible refine Up.drewN ?_ _) | (with_reducible refine Up.setCell ?_ ?_ _) | (with_reducible refine Up.call ?_ (by with_reducible assumption)) | go_size)))) (HT.out.up (by (repeat' (first | (with_reducible exact Up.refl _) | (with_reducible assumption) | (with_reducible refine Up.alloc ?_ _) | (with_reducible refine Up.drew ?_) | (with_reducible refine Up.drewN ?_ _) | (with_reducible refine Up.setCell ?_ ?_ _) | (with_reducible refine Up.call ?_ (by with_reducible assumption)) | go_size))))).mono ?_); rintro E w2 ⟨rfl, hu2⟩; have z2 := hu2.size; have Rw2 : Row w2 w.heap.size #[.int .i64 W, .int .i64 H, .slice a n c] := Row.up (show Row _ w.heap.size #[.int .i64 W, .int .i64 H, .slice a n c] by (repeat' (first | (with_reducible assumption) | (with_reducible refine Row.at _ _ ?_; (simp; done)) | (with_reducible refine Row.alloc ?_ _) | (with_reducible refine Row.drew ?_) | (with_reducible refine Row.drewN ?_ _) | (with_reducible refine Row.other ?_ (by first | (simp; done) | (simp; omega) | omega) _) | (with_reducible refine Row.up ?_ (by with_reducible assumption)) | (with_reducible refine Row.chg ?_ (by with_reducible assumption) (by first | (simp; done) | (simp; omega)))))) hu2; have lw2 := Rw2.lt; have qw2_0 : w2.cell? ⟨w.heap.size, 0, none⟩ = some (.int .i64 W) := Rw2.cell 0 rfl; have qw2_1 : w2.cell? ⟨w.heap.size, 1, none⟩ = some (.int .i64 H) := Rw2.cell 1 rfl; have qw2_2 : w2.cell? ⟨w.heap.size, 2, none⟩ = some (.slice a n c) := Rw2.cell 2 rfl))
        | (go_at_call 7; ((with_reducible refine (rsoundPage_calls W H its a n c _ (sl_up HS.out (by (repeat' (first | (with_reducible exact Up.refl _) | (with_reducible assumption) | (with_reducible refine Up.alloc ?_ _) | (with_reducible refine Up.drew ?_) | (with_reducible refine Up.drewN ?_ _) | (with_reducible refine Up.setCell ?_ ?_ _) | (with_reducible refine Up.call ?_ (by with_reducible assumption)) | go_size)))) (fun i hi => (HI.out i hi).up (by (repeat' (first | (with_reducible exact Up.refl _) | (with_reducible assumption) | (with_reducible refine Up.alloc ?_ _) | (with_reducible refine Up.drew ?_) | (with_reducible refine Up.drewN ?_ _) | (with_reducible refine Up.setCell ?_ ?_ _) | (with_reducible refine Up.call ?_ (by with_reducible assumption)) | go_size))))).mono ?_); rintro E w3 ⟨rfl, hu3⟩; have z3 := hu3.size; have Rw3 : Row w3 w.heap.size #[.int .i64 W, .int .i64 H, .slice a n c] := Row.up (show Row _ w.heap.size #[.int .i64 W, .int .i64 H, .slice a n c] by (repeat' (first | (with_reducible assumption) | (with_reducible refine Row.at _ _ ?_; (simp; done)) | (with_reducible refine Row.alloc ?_ _) | (with_reducible refine Row.drew ?_) | (with_reducible refine Row.drewN ?_ _) | (with_reducible refine Row.other ?_ (by first | (simp; done) | (simp; omega) | omega) _) | (with_reducible refine Row.up ?_ (by with_reducible assumption)) | (with_reducible refine Row.chg ?_ (by with_reducible assumption) (by first | (simp; done) | (simp; omega)))))) hu3; have lw3 := Rw3.lt; have qw3_0 : w3.cell? ⟨w.heap.size, 0, none⟩ = some (.int .i64 W) := Rw3.cell 0 rfl; have qw3_1 : w3.cell? ⟨w.heap.size, 1, none⟩ = some (.int .i64 H) := Rw3.cell 1 rfl; have qw3_2 : w3.cell? ⟨w.heap.size, 2, none⟩ = some (.slice a n c) := Rw3.cell 2 rfl)))
      all_goals go_wp2
      all_goals
        go_ret
        exact ⟨rfl, by (repeat' (first | (with_reducible exact Up.refl _) | (with_reducible assumption) | (with_reducible refine Up.alloc ?_ _) | (with_reducible refine Up.drew ?_) | (with_reducible refine Up.drewN ?_ _) | (with_reducible refine Up.setCell ?_ ?_ _) | (with_reducible refine Up.call ?_ (by with_reducible assumption)) | go_size))⟩

end Go.Proofs.YteddlahklilncaaDoor.Pt