/- paint.Sound of any page, walked. Its condition: the fonts' names lie as they are laid. -/
import Derived.Test.YteddlahklilncaaDoorPt4
namespace Go.Proofs.YteddlahklilncaaDoor.Pt
open Go.ChangeShapes Go.WideShapes Go.ChangeAt Go.RowKit
open Go.Proofs.YteddlahklilncaaDoor.FixM (fits)
open Go.Proofs.YteddlahklilncaaDoor.PathM (Seg sound)
open Go.Proofs.YteddlahklilncaaDoor.MatM (M6)
set_option linter.unusedVariables false
set_option linter.unusedSimpArgs false

def pageR (W H : Int) (l : List Item) : Bool := sideR W && (sideR H && (decide (l.length ≤ 4096) && l.all itemR))
theorem itemR_eq {w : World} (k : Int) (pa : Option Addr) (pl pc : Nat) (sp p0 p1 p2 p3 : Int) (ca : Option Addr) (cl cc : Nat) (wd cp jn mt : Int) (da : Option Addr) (dl dc : Nat) (ph fn : Int) (m : M6) (ba : Option Addr) (bl bc : Nat) (l : List Seg) (cs : List Clip) (ds bs : List Int) (h : Lists w pa pl pc ca cl cc da dl dc ba bl bc l cs ds bs) : itemR ⟨k, .slice pa pl pc, l, sp, p0, p1, p2, p3, .slice ca cl cc, cs, wd, cp, jn, mt, .slice da dl dc, ds, ph, fn, m, .slice ba bl bc, bs⟩ = (itemB (colorR sp p0 p1 p2 p3) (clipsR cs) (lettersR fn m bl) (noneR wd cp jn mt dl ph) (penR wd cp jn mt ds ph) (sound l) (m0 m) k fn pl bl) := by
  unfold itemR
  simp only [h.pn, h.dn, h.bn]
set_option maxRecDepth 8000 in
set_option maxHeartbeats 2000000 in
theorem sound1_calls (k : Int) (pa : Option Addr) (pl pc : Nat) (sp p0 p1 p2 p3 : Int) (ca : Option Addr) (cl cc : Nat) (wd cp jn mt : Int) (da : Option Addr) (dl dc : Nat) (ph fn : Int) (m : M6) (ba : Option Addr) (bl bc : Nat) (l : List Seg) (cs : List Clip) (ds bs : List Int) (r : Bool) (w : World) (hL : Lists w pa pl pc ca cl cc da dl dc ba bl bc l cs ds bs) (hT : Font.Tab w) (hr : (itemB (colorR sp p0 p1 p2 p3) (clipsR cs) (lettersR fn m bl) (noneR wd cp jn mt dl ph) (penR wd cp jn mt ds ph) (sound l) (m0 m) k fn pl bl) = r) :
    Calls Tryd.prog 20 #[.agg #[.int .i64 k, .slice pa pl pc, .int .i64 sp, .int .i64 p0, .int .i64 p1, .int .i64 p2, .int .i64 p3, .slice ca cl cc, .int .i64 wd, .int .i64 cp, .int .i64 jn, .int .i64 mt, .slice da dl dc, .int .i64 ph, .int .i64 fn, .int .i64 m.a, .int .i64 m.b, .int .i64 m.c, .int .i64 m.d, .int .i64 m.x, .int .i64 m.y, .slice ba bl bc]] w fun E w' => E = .returned (.bool (!r)) ∧ Up w w' := by
  have HL := Lib.hid hL
  have HT := Lib.hid hT
  have HR := Lib.hid hr
  clear hL hT hr
  go_enter Tryd.func20, Tryd.ntmps20
  go_wp2_with (first
    | (refine wpList_load_Row rfl 36 (.tmp 1) rfl (w.heap.size) rfl #[.int .i64 k, .slice pa pl pc, .int .i64 sp, .int .i64 p0, .int .i64 p1, .int .i64 p2, .int .i64 p3, .slice ca cl cc, .int .i64 wd, .int .i64 cp, .int .i64 jn, .int .i64 mt, .slice da dl dc, .int .i64 ph, .int .i64 fn, .int .i64 m.a, .int .i64 m.b, .int .i64 m.c, .int .i64 m.d, .int .i64 m.x, .int .i64 m.y, .slice ba bl bc] _ (by (repeat' (first | (with_reducible assumption) | (with_reducible refine Row.at _ _ ?_; (simp; done)) | (with_reducible refine Row.alloc ?_ _) | (with_reducible refine Row.drew ?_) | (with_reducible refine Row.drewN ?_ _) | (with_reducible refine Row.other ?_ (by first | (simp; done) | (simp; omega) | omega) _) | (with_reducible refine Row.up ?_ (by with_reducible assumption)) | (with_reducible refine Row.chg ?_ (by with_reducible assumption) (by first | (simp; done) | (simp; omega)))))) Tryd.underlying36 rfl infoItem rfl ?_)
    | (go_at_call 21; ((with_reducible refine (item_calls k pa pl pc sp p0 p1 p2 p3 ca cl cc wd cp jn mt da dl dc ph fn m ba bl bc l cs ds bs _ _ _ _ _ _ _ _ (HL.out.up (by (repeat' (first | (with_reducible exact Up.refl _) | (with_reducible assumption) | (with_reducible refine Up.alloc ?_ _) | (with_reducible refine Up.drew ?_) | (with_reducible refine Up.drewN ?_ _) | (with_reducible refine Up.setCell ?_ ?_ _) | (with_reducible refine Up.call ?_ (by with_reducible assumption)) | go_size)))) (HT.out.up (by (repeat' (first | (with_reducible exact Up.refl _) | (with_reducible assumption) | (with_reducible refine Up.alloc ?_ _) | (with_reducible refine Up.drew ?_) | (with_reducible refine Up.drewN ?_ _) | (with_reducible refine Up.setCell ?_ ?_ _) | (with_reducible refine Up.call ?_ (by with_reducible assumption)) | go_size)))) rfl rfl rfl rfl rfl rfl rfl).mono ?_); rw [HR.out]; rintro E w1 ⟨rfl, hu1⟩)))
  go_ret
  exact ⟨rfl, by (repeat' (first | (with_reducible exact Up.refl _) | (with_reducible assumption) | (with_reducible refine Up.alloc ?_ _) | (with_reducible refine Up.drew ?_) | (with_reducible refine Up.drewN ?_ _) | (with_reducible refine Up.setCell ?_ ?_ _) | (with_reducible refine Up.call ?_ (by with_reducible assumption)) | go_size))⟩
set_option maxRecDepth 8000 in
set_option maxHeartbeats 4000000 in
theorem index_items (its : List Item) (a : Option Addr) (n c : Nat) (w : World) (h : Sl 22 Item.cells w a n c its) (hs : ∀ i ∈ its, i.is w) (hT : Font.Tab w) (hl : n ≤ 5000) :
    Calls Tryd.prog 32 #[.slice a n c, .func (.func 20) #[] #[]] w fun e w' => e = .returned (.int .i64 (idxG (fun i => !itemR i) its)) ∧ Up w w' := by
  obtain ⟨h1, h2, h3, h4, h5⟩ := h
  have HN := Lib.hid h3
  have HC := Lib.hid h5
  have HS := Lib.hid hs
  have HT := Lib.hid hT
  clear h3 h5 hs h4 hT
  go_enter Tryd.func32, Tryd.ntmps32
  go_wp2
  go_loopw [8] (fun i wr => ∃ j : Nat, j ≤ n ∧ i = .int .i64 j ∧ Hid ((its.take j).any (fun i => !itemR i) = false) ∧ Up w wr) (fun i _ => n - (intOf i).toNat)
  case atStart => exact ⟨0, Nat.zero_le _, rfl, Lib.hid (by simp), Up.refl _⟩
  case round =>
    obtain ⟨j, hk, rfl, HNO, hup⟩ := hrel
    by_cases hlt : j < n
    · obtain ⟨it, hx⟩ : ∃ x, its[j]? = some x := ⟨_, List.getElem?_eq_getElem (by have := HN.out; omega)⟩
      obtain ⟨b, o, rfl, hb, hc⟩ := HC.out (by omega)
      have his := HS.out _ (List.mem_of_getElem? hx)
      have hcj := fun q u hq => hc j it q u hx hq
      obtain ⟨k, pv, l, sp, p0, p1, p2, p3, cv, cs, wd, cp, jn, mt, dv, ds, ph, fn, m, bv, bs⟩ := it
      obtain ⟨pa, pl, pc, ca, cl, cc, da, dl, dc, ba, bl, bc, e1, e2, e3, e4, hLs⟩ := item_lists his
      simp only at e1 e2 e3 e4
      subst e1 e2 e3 e4
      have HRG := Lib.hid (show w.rangeAt b (o + j * 22) #[.int .i64 k, .slice pa pl pc, .int .i64 sp, .int .i64 p0, .int .i64 p1, .int .i64 p2, .int .i64 p3, .slice ca cl cc, .int .i64 wd, .int .i64 cp, .int .i64 jn, .int .i64 mt, .slice da dl dc, .int .i64 ph, .int .i64 fn, .int .i64 m.a, .int .i64 m.b, .int .i64 m.c, .int .i64 m.d, .int .i64 m.x, .int .i64 m.y, .slice ba bl bc].toList from fun q u hq => hcj q u hq)
      have HLS := Lib.hid hLs
      have HX := Lib.hid hx
      have hz := hup.size
      have hcast : decide ((j : Int) < (n : Int)) = true := decide_eq_true (by omega)
      clear hc hcj hx his hLs
      obtain ⟨r, hr⟩ : ∃ r, itemR ⟨k, .slice pa pl pc, l, sp, p0, p1, p2, p3, .slice ca cl cc, cs, wd, cp, jn, mt, .slice da dl dc, ds, ph, fn, m, .slice ba bl bc, bs⟩ = r := ⟨_, rfl⟩
      have HR := Lib.hid ((itemR_eq k pa pl pc sp p0 p1 p2 p3 ca cl cc wd cp jn mt da dl dc ph fn m ba bl bc l cs ds bs HLS.out).symm.trans hr)
      have HT2 := Lib.hid (show (!itemR ⟨k, .slice pa pl pc, l, sp, p0, p1, p2, p3, .slice ca cl cc, cs, wd, cp, jn, mt, .slice da dl dc, ds, ph, fn, m, .slice ba bl bc, bs⟩) = !r by rw [hr])
      clear hr
      cases r
      · have HE := Lib.hid (idxG_hit HX.out HNO.out HT2.out)
        go_wp2_with (first
          | ((refine wpList_load_mid rfl 36 (.tmp 14) rfl b (o + j * 22) (by first | rfl | simp) #[.int .i64 k, .slice pa pl pc, .int .i64 sp, .int .i64 p0, .int .i64 p1, .int .i64 p2, .int .i64 p3, .slice ca cl cc, .int .i64 wd, .int .i64 cp, .int .i64 jn, .int .i64 mt, .slice da dl dc, .int .i64 ph, .int .i64 fn, .int .i64 m.a, .int .i64 m.b, .int .i64 m.c, .int .i64 m.d, .int .i64 m.x, .int .i64 m.y, .slice ba bl bc].toList _ (fun q u hq => ((show Up w _ by (repeat' (first | (with_reducible exact Up.refl _) | (with_reducible assumption) | (with_reducible refine Up.alloc ?_ _) | (with_reducible refine Up.drew ?_) | (with_reducible refine Up.drewN ?_ _) | (with_reducible refine Up.setCell ?_ ?_ _) | (with_reducible refine Up.call ?_ (by with_reducible assumption)) | go_size))).cells.1 b (o + j * 22 + q) hb).trans (HRG.out q u hq)) Tryd.underlying36 rfl infoItem ?_); (try simp only [Array.toArray_toList]))
          | (go_at_call 20; ((with_reducible refine (sound1_calls k pa pl pc sp p0 p1 p2 p3 ca cl cc wd cp jn mt da dl dc ph fn m ba bl bc l cs ds bs _ _ (HLS.out.up (by (repeat' (first | (with_reducible exact Up.refl _) | (with_reducible assumption) | (with_reducible refine Up.alloc ?_ _) | (with_reducible refine Up.drew ?_) | (with_reducible refine Up.drewN ?_ _) | (with_reducible refine Up.setCell ?_ ?_ _) | (with_reducible refine Up.call ?_ (by with_reducible assumption)) | go_size)))) (HT.out.up (by (repeat' (first | (with_reducible exact Up.refl _) | (with_reducible assumption) | (with_reducible refine Up.alloc ?_ _) | (with_reducible refine Up.drew ?_) | (with_reducible refine Up.drewN ?_ _) | (with_reducible refine Up.setCell ?_ ?_ _) | (with_reducible refine Up.call ?_ (by with_reducible assumption)) | go_size)))) HR.out).mono ?_); rintro E w1 ⟨rfl, hu1⟩)))
        go_ret
        exact ⟨by rw [HE.out]; rfl, by (repeat' (first | (with_reducible exact Up.refl _) | (with_reducible assumption) | (with_reducible refine Up.alloc ?_ _) | (with_reducible refine Up.drew ?_) | (with_reducible refine Up.drewN ?_ _) | (with_reducible refine Up.setCell ?_ ?_ _) | (with_reducible refine Up.call ?_ (by with_reducible assumption)) | go_size))⟩
      · go_wp2_with (first
          | ((refine wpList_load_mid rfl 36 (.tmp 14) rfl b (o + j * 22) (by first | rfl | simp) #[.int .i64 k, .slice pa pl pc, .int .i64 sp, .int .i64 p0, .int .i64 p1, .int .i64 p2, .int .i64 p3, .slice ca cl cc, .int .i64 wd, .int .i64 cp, .int .i64 jn, .int .i64 mt, .slice da dl dc, .int .i64 ph, .int .i64 fn, .int .i64 m.a, .int .i64 m.b, .int .i64 m.c, .int .i64 m.d, .int .i64 m.x, .int .i64 m.y, .slice ba bl bc].toList _ (fun q u hq => ((show Up w _ by (repeat' (first | (with_reducible exact Up.refl _) | (with_reducible assumption) | (with_reducible refine Up.alloc ?_ _) | (with_reducible refine Up.drew ?_) | (with_reducible refine Up.drewN ?_ _) | (with_reducible refine Up.setCell ?_ ?_ _) | (with_reducible refine Up.call ?_ (by with_reducible assumption)) | go_size))).cells.1 b (o + j * 22 + q) hb).trans (HRG.out q u hq)) Tryd.underlying36 rfl infoItem ?_); (try simp only [Array.toArray_toList]))
          | (go_at_call 20; ((with_reducible refine (sound1_calls k pa pl pc sp p0 p1 p2 p3 ca cl cc wd cp jn mt da dl dc ph fn m ba bl bc l cs ds bs _ _ (HLS.out.up (by (repeat' (first | (with_reducible exact Up.refl _) | (with_reducible assumption) | (with_reducible refine Up.alloc ?_ _) | (with_reducible refine Up.drew ?_) | (with_reducible refine Up.drewN ?_ _) | (with_reducible refine Up.setCell ?_ ?_ _) | (with_reducible refine Up.call ?_ (by with_reducible assumption)) | go_size)))) (HT.out.up (by (repeat' (first | (with_reducible exact Up.refl _) | (with_reducible assumption) | (with_reducible refine Up.alloc ?_ _) | (with_reducible refine Up.drew ?_) | (with_reducible refine Up.drewN ?_ _) | (with_reducible refine Up.setCell ?_ ?_ _) | (with_reducible refine Up.call ?_ (by with_reducible assumption)) | go_size)))) HR.out).mono ?_); rintro E w1 ⟨rfl, hu1⟩)))
        go_roundw
        case rel => exact ⟨j + 1, by omega, by go_num, Lib.hid (any_step HX.out HNO.out HT2.out), by (repeat' (first | (with_reducible exact Up.refl _) | (with_reducible assumption) | (with_reducible refine Up.alloc ?_ _) | (with_reducible refine Up.drew ?_) | (with_reducible refine Up.drewN ?_ _) | (with_reducible refine Up.setCell ?_ ?_ _) | (with_reducible refine Up.call ?_ (by with_reducible assumption)) | go_size))⟩
        case measure => simp [intOf]; omega
    · have HE := Lib.hid (idxG_miss (by have := HN.out; omega) HNO.out)
      have hcast : decide ((j : Int) < (n : Int)) = false := decide_eq_false (by omega)
      go_wp2
      go_ret
      exact ⟨by rw [HE.out]; rfl, by (repeat' (first | (with_reducible exact Up.refl _) | (with_reducible assumption) | (with_reducible refine Up.alloc ?_ _) | (with_reducible refine Up.drew ?_) | (with_reducible refine Up.drewN ?_ _) | (with_reducible refine Up.setCell ?_ ?_ _) | (with_reducible refine Up.call ?_ (by with_reducible assumption)) | go_size))⟩
theorem contains_items (its : List Item) (a : Option Addr) (n c : Nat) (w : World) (h : Sl 22 Item.cells w a n c its) (hs : ∀ i ∈ its, i.is w) (hT : Font.Tab w) (hl : n ≤ 5000) :
    Calls Tryd.prog 19 #[.slice a n c, .func (.func 20) #[] #[]] w fun e w' => e = .returned (.bool (its.any (fun i => !itemR i))) ∧ Up w w' := by
  have HI := Lib.hid (idxG_neg (fun i => !itemR i) its)
  have H := Lib.hid h
  have HS := Lib.hid hs
  have HT := Lib.hid hT
  clear h hs hT
  go_enter Tryd.func19, Tryd.ntmps19
  go_wp2_with (go_at_call 32; ((with_reducible refine (index_items its a n c _ H.out HS.out HT.out hl).mono ?_); rintro E w1 ⟨rfl, hu1⟩))
  go_ret
  exact ⟨by rw [← HI.out]; rfl, by (repeat' (first | (with_reducible exact Up.refl _) | (with_reducible assumption) | (with_reducible refine Up.alloc ?_ _) | (with_reducible refine Up.drew ?_) | (with_reducible refine Up.drewN ?_ _) | (with_reducible refine Up.setCell ?_ ?_ _) | (with_reducible refine Up.call ?_ (by with_reducible assumption)) | go_size))⟩

set_option maxRecDepth 8000 in
set_option maxHeartbeats 2000000 in
theorem sound_calls (W H : Int) (its : List Item) (a : Option Addr) (n c : Nat) (w : World) (h : Sl 22 Item.cells w a n c its) (hs : ∀ i ∈ its, i.is w) (hT : Font.Tab w) :
    Calls Tryd.prog 6 #[.agg #[.int .i64 W, .int .i64 H, .slice a n c]] w fun e w' => e = .returned (.bool (pageR W H its)) ∧ Up w w' := by
  have HN := h.2.2.1
  have HS := Lib.hid h
  have HI := Lib.hid hs
  have HT := Lib.hid hT
  clear h hs hT
  obtain ⟨tW, hW⟩ : ∃ b, sideR W = b := ⟨_, rfl⟩
  cases tW
  · have HQ := Lib.hid (show pageR W H its = false by simp only [pageR, hW] <;> simp)
    go_enter Tryd.func6, Tryd.ntmps6
    go_wp2_with (first
      | (go_at_call 18; ((with_reducible refine (side_calls W _).mono ?_); rw [hW]; rintro E w1 ⟨rfl, hu1⟩; have z1 := hu1.size; (try simp at z1); have Rw1 : Row w1 w.heap.size #[.int .i64 W, .int .i64 H, .slice a n c] := Row.up (show Row _ w.heap.size #[.int .i64 W, .int .i64 H, .slice a n c] by (repeat' (first | (with_reducible assumption) | (with_reducible refine Row.at _ _ ?_; (simp; done)) | (with_reducible refine Row.alloc ?_ _) | (with_reducible refine Row.drew ?_) | (with_reducible refine Row.drewN ?_ _) | (with_reducible refine Row.other ?_ (by first | (simp; done) | (simp; omega) | omega) _) | (with_reducible refine Row.up ?_ (by with_reducible assumption)) | (with_reducible refine Row.chg ?_ (by with_reducible assumption) (by first | (simp; done) | (simp; omega)))))) hu1; have lw1 := Rw1.lt; have qw1_0 : w1.cell? ⟨w.heap.size, 0, none⟩ = some (.int .i64 W) := Rw1.cell 0 rfl; have qw1_1 : w1.cell? ⟨w.heap.size, 1, none⟩ = some (.int .i64 H) := Rw1.cell 1 rfl; have qw1_2 : w1.cell? ⟨w.heap.size, 2, none⟩ = some (.slice a n c) := Rw1.cell 2 rfl)))
    go_ret
    exact ⟨by rw [HQ.out]; rfl, by (repeat' (first | (with_reducible exact Up.refl _) | (with_reducible assumption) | (with_reducible refine Up.alloc ?_ _) | (with_reducible refine Up.drew ?_) | (with_reducible refine Up.drewN ?_ _) | (with_reducible refine Up.setCell ?_ ?_ _) | (with_reducible refine Up.call ?_ (by with_reducible assumption)) | go_size))⟩
  obtain ⟨tH, hH⟩ : ∃ b, sideR H = b := ⟨_, rfl⟩
  cases tH
  · have HQ := Lib.hid (show pageR W H its = false by simp only [pageR, hW, hH] <;> simp)
    go_enter Tryd.func6, Tryd.ntmps6
    go_wp2_with (first
      | (go_at_call 18; ((with_reducible refine (side_calls W _).mono ?_); rw [hW]; rintro E w1 ⟨rfl, hu1⟩; have z1 := hu1.size; (try simp at z1); have Rw1 : Row w1 w.heap.size #[.int .i64 W, .int .i64 H, .slice a n c] := Row.up (show Row _ w.heap.size #[.int .i64 W, .int .i64 H, .slice a n c] by (repeat' (first | (with_reducible assumption) | (with_reducible refine Row.at _ _ ?_; (simp; done)) | (with_reducible refine Row.alloc ?_ _) | (with_reducible refine Row.drew ?_) | (with_reducible refine Row.drewN ?_ _) | (with_reducible refine Row.other ?_ (by first | (simp; done) | (simp; omega) | omega) _) | (with_reducible refine Row.up ?_ (by with_reducible assumption)) | (with_reducible refine Row.chg ?_ (by with_reducible assumption) (by first | (simp; done) | (simp; omega)))))) hu1; have lw1 := Rw1.lt; have qw1_0 : w1.cell? ⟨w.heap.size, 0, none⟩ = some (.int .i64 W) := Rw1.cell 0 rfl; have qw1_1 : w1.cell? ⟨w.heap.size, 1, none⟩ = some (.int .i64 H) := Rw1.cell 1 rfl; have qw1_2 : w1.cell? ⟨w.heap.size, 2, none⟩ = some (.slice a n c) := Rw1.cell 2 rfl))
      | (go_at_call 18; ((with_reducible refine (side_calls H _).mono ?_); rw [hH]; rintro E w2 ⟨rfl, hu2⟩; have z2 := hu2.size; (try simp at z2); have Rw2 : Row w2 w.heap.size #[.int .i64 W, .int .i64 H, .slice a n c] := Row.up (show Row _ w.heap.size #[.int .i64 W, .int .i64 H, .slice a n c] by (repeat' (first | (with_reducible assumption) | (with_reducible refine Row.at _ _ ?_; (simp; done)) | (with_reducible refine Row.alloc ?_ _) | (with_reducible refine Row.drew ?_) | (with_reducible refine Row.drewN ?_ _) | (with_reducible refine Row.other ?_ (by first | (simp; done) | (simp; omega) | omega) _) | (with_reducible refine Row.up ?_ (by with_reducible assumption)) | (with_reducible refine Row.chg ?_ (by with_reducible assumption) (by first | (simp; done) | (simp; omega)))))) hu2; have lw2 := Rw2.lt; have qw2_0 : w2.cell? ⟨w.heap.size, 0, none⟩ = some (.int .i64 W) := Rw2.cell 0 rfl; have qw2_1 : w2.cell? ⟨w.heap.size, 1, none⟩ = some (.int .i64 H) := Rw2.cell 1 rfl; have qw2_2 : w2.cell? ⟨w.heap.size, 2, none⟩ = some (.slice a n c) := Rw2.cell 2 rfl)))
    go_ret
    exact ⟨by rw [HQ.out]; rfl, by (repeat' (first | (with_reducible exact Up.refl _) | (with_reducible assumption) | (with_reducible refine Up.alloc ?_ _) | (with_reducible refine Up.drew ?_) | (with_reducible refine Up.drewN ?_ _) | (with_reducible refine Up.setCell ?_ ?_ _) | (with_reducible refine Up.call ?_ (by with_reducible assumption)) | go_size))⟩
  by_cases hn : n ≤ 4096
  rotate_left
  · have hcast : decide ((n : Int) ≤ 4096) = false := decide_eq_false (by omega)
    have hn2 : decide (its.length ≤ 4096) = false := decide_eq_false (by omega)
    have HN2 := Lib.hid hn2
    clear hn2
    have HQ := Lib.hid (show pageR W H its = false by simp only [pageR, hW, hH, HN2.out] <;> simp)
    go_enter Tryd.func6, Tryd.ntmps6
    go_wp2_with (first
      | (go_at_call 18; ((with_reducible refine (side_calls W _).mono ?_); rw [hW]; rintro E w1 ⟨rfl, hu1⟩; have z1 := hu1.size; (try simp at z1); have Rw1 : Row w1 w.heap.size #[.int .i64 W, .int .i64 H, .slice a n c] := Row.up (show Row _ w.heap.size #[.int .i64 W, .int .i64 H, .slice a n c] by (repeat' (first | (with_reducible assumption) | (with_reducible refine Row.at _ _ ?_; (simp; done)) | (with_reducible refine Row.alloc ?_ _) | (with_reducible refine Row.drew ?_) | (with_reducible refine Row.drewN ?_ _) | (with_reducible refine Row.other ?_ (by first | (simp; done) | (simp; omega) | omega) _) | (with_reducible refine Row.up ?_ (by with_reducible assumption)) | (with_reducible refine Row.chg ?_ (by with_reducible assumption) (by first | (simp; done) | (simp; omega)))))) hu1; have lw1 := Rw1.lt; have qw1_0 : w1.cell? ⟨w.heap.size, 0, none⟩ = some (.int .i64 W) := Rw1.cell 0 rfl; have qw1_1 : w1.cell? ⟨w.heap.size, 1, none⟩ = some (.int .i64 H) := Rw1.cell 1 rfl; have qw1_2 : w1.cell? ⟨w.heap.size, 2, none⟩ = some (.slice a n c) := Rw1.cell 2 rfl))
      | (go_at_call 18; ((with_reducible refine (side_calls H _).mono ?_); rw [hH]; rintro E w2 ⟨rfl, hu2⟩; have z2 := hu2.size; (try simp at z2); have Rw2 : Row w2 w.heap.size #[.int .i64 W, .int .i64 H, .slice a n c] := Row.up (show Row _ w.heap.size #[.int .i64 W, .int .i64 H, .slice a n c] by (repeat' (first | (with_reducible assumption) | (with_reducible refine Row.at _ _ ?_; (simp; done)) | (with_reducible refine Row.alloc ?_ _) | (with_reducible refine Row.drew ?_) | (with_reducible refine Row.drewN ?_ _) | (with_reducible refine Row.other ?_ (by first | (simp; done) | (simp; omega) | omega) _) | (with_reducible refine Row.up ?_ (by with_reducible assumption)) | (with_reducible refine Row.chg ?_ (by with_reducible assumption) (by first | (simp; done) | (simp; omega)))))) hu2; have lw2 := Rw2.lt; have qw2_0 : w2.cell? ⟨w.heap.size, 0, none⟩ = some (.int .i64 W) := Rw2.cell 0 rfl; have qw2_1 : w2.cell? ⟨w.heap.size, 1, none⟩ = some (.int .i64 H) := Rw2.cell 1 rfl; have qw2_2 : w2.cell? ⟨w.heap.size, 2, none⟩ = some (.slice a n c) := Rw2.cell 2 rfl)))
    go_ret
    exact ⟨by rw [HQ.out]; rfl, by (repeat' (first | (with_reducible exact Up.refl _) | (with_reducible assumption) | (with_reducible refine Up.alloc ?_ _) | (with_reducible refine Up.drew ?_) | (with_reducible refine Up.drewN ?_ _) | (with_reducible refine Up.setCell ?_ ?_ _) | (with_reducible refine Up.call ?_ (by with_reducible assumption)) | go_size))⟩
  have hcast : decide ((n : Int) ≤ 4096) = true := decide_eq_true (by omega)
  have HN2 := Lib.hid (show decide (its.length ≤ 4096) = true from decide_eq_true (by omega))
  have HQ := Lib.hid (show pageR W H its = (!its.any (fun i => !itemR i)) by simp only [pageR, hW, hH, HN2.out, all_not] <;> simp)
  go_enter Tryd.func6, Tryd.ntmps6
  go_wp2_with (first
    | (go_at_call 18; ((with_reducible refine (side_calls W _).mono ?_); rw [hW]; rintro E w1 ⟨rfl, hu1⟩; have z1 := hu1.size; (try simp at z1); have Rw1 : Row w1 w.heap.size #[.int .i64 W, .int .i64 H, .slice a n c] := Row.up (show Row _ w.heap.size #[.int .i64 W, .int .i64 H, .slice a n c] by (repeat' (first | (with_reducible assumption) | (with_reducible refine Row.at _ _ ?_; (simp; done)) | (with_reducible refine Row.alloc ?_ _) | (with_reducible refine Row.drew ?_) | (with_reducible refine Row.drewN ?_ _) | (with_reducible refine Row.other ?_ (by first | (simp; done) | (simp; omega) | omega) _) | (with_reducible refine Row.up ?_ (by with_reducible assumption)) | (with_reducible refine Row.chg ?_ (by with_reducible assumption) (by first | (simp; done) | (simp; omega)))))) hu1; have lw1 := Rw1.lt; have qw1_0 : w1.cell? ⟨w.heap.size, 0, none⟩ = some (.int .i64 W) := Rw1.cell 0 rfl; have qw1_1 : w1.cell? ⟨w.heap.size, 1, none⟩ = some (.int .i64 H) := Rw1.cell 1 rfl; have qw1_2 : w1.cell? ⟨w.heap.size, 2, none⟩ = some (.slice a n c) := Rw1.cell 2 rfl))
    | (go_at_call 18; ((with_reducible refine (side_calls H _).mono ?_); rw [hH]; rintro E w2 ⟨rfl, hu2⟩; have z2 := hu2.size; (try simp at z2); have Rw2 : Row w2 w.heap.size #[.int .i64 W, .int .i64 H, .slice a n c] := Row.up (show Row _ w.heap.size #[.int .i64 W, .int .i64 H, .slice a n c] by (repeat' (first | (with_reducible assumption) | (with_reducible refine Row.at _ _ ?_; (simp; done)) | (with_reducible refine Row.alloc ?_ _) | (with_reducible refine Row.drew ?_) | (with_reducible refine Row.drewN ?_ _) | (with_reducible refine Row.other ?_ (by first | (simp; done) | (simp; omega) | omega) _) | (with_reducible refine Row.up ?_ (by with_reducible assumption)) | (with_reducible refine Row.chg ?_ (by with_reducible assumption) (by first | (simp; done) | (simp; omega)))))) hu2; have lw2 := Rw2.lt; have qw2_0 : w2.cell? ⟨w.heap.size, 0, none⟩ = some (.int .i64 W) := Rw2.cell 0 rfl; have qw2_1 : w2.cell? ⟨w.heap.size, 1, none⟩ = some (.int .i64 H) := Rw2.cell 1 rfl; have qw2_2 : w2.cell? ⟨w.heap.size, 2, none⟩ = some (.slice a n c) := Rw2.cell 2 rfl))
    | (go_at_call 19; ((with_reducible refine (contains_items its a n c _ (sl_up HS.out (by (repeat' (first | (with_reducible exact Up.refl _) | (with_reducible assumption) | (with_reducible refine Up.alloc ?_ _) | (with_reducible refine Up.drew ?_) | (with_reducible refine Up.drewN ?_ _) | (with_reducible refine Up.setCell ?_ ?_ _) | (with_reducible refine Up.call ?_ (by with_reducible assumption)) | go_size)))) (fun i hi => (HI.out i hi).up (by (repeat' (first | (with_reducible exact Up.refl _) | (with_reducible assumption) | (with_reducible refine Up.alloc ?_ _) | (with_reducible refine Up.drew ?_) | (with_reducible refine Up.drewN ?_ _) | (with_reducible refine Up.setCell ?_ ?_ _) | (with_reducible refine Up.call ?_ (by with_reducible assumption)) | go_size)))) (HT.out.up (by (repeat' (first | (with_reducible exact Up.refl _) | (with_reducible assumption) | (with_reducible refine Up.alloc ?_ _) | (with_reducible refine Up.drew ?_) | (with_reducible refine Up.drewN ?_ _) | (with_reducible refine Up.setCell ?_ ?_ _) | (with_reducible refine Up.call ?_ (by with_reducible assumption)) | go_size)))) (by omega)).mono ?_); rintro E w3 ⟨rfl, hu3⟩)))
  go_ret
  exact ⟨by rw [HQ.out]; rfl, by (repeat' (first | (with_reducible exact Up.refl _) | (with_reducible assumption) | (with_reducible refine Up.alloc ?_ _) | (with_reducible refine Up.drew ?_) | (with_reducible refine Up.drewN ?_ _) | (with_reducible refine Up.setCell ?_ ?_ _) | (with_reducible refine Up.call ?_ (by with_reducible assumption)) | go_size))⟩

end Go.Proofs.YteddlahklilncaaDoor.Pt