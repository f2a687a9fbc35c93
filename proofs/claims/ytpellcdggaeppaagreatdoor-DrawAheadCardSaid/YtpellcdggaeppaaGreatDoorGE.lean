/- Package draw: how lines are drawn. Its condition: numbers that fit, lengths that a buffer bears. Package draw: clips that are the same. No condition. Package draw: bound. Its condition: numbers that fit, lengths that a buffer bears. -/
import Derived.Test.YtpellcdggaeppaaGreatDoorGC
import Derived.Deep.Cut
import Derived.Deep.CutRange
import Derived.OrdersHeld
import Derived.Test.YtpellcdggaeppaaGreatDoorGPathS
import Derived.Deep.MidRow
section
namespace Go.Proofs.YtpellcdggaeppaaGreatDoor.Dr
open List renaming getElem_toArray → lga, getElem_cons_zero → lgz, getElem_cons_succ → lgs, setIfInBounds_toArray → lsa, set_cons_zero → lsz, set_cons_succ → lss
open Go.ChangeShapes Go.WideShapes Go.RowKit Go.Shelf
open Go.Proofs.YtpellcdggaeppaaGreatDoor.Pob
set_option linter.unusedVariables false
set_option linter.unusedSimpArgs false

theorem up_drewN {w : World} (n : Nat) : Up w (w.drewN n) := Up.drewN (Up.refl w) n
theorem eqInts_lens (a1 a2 : Option Addr) (n c m d : Nat) (w : World) (hn : ¬ n = m) :
    Calls Tryz.prog 79 #[.slice a1 n c, .slice a2 m d] w fun e w' => e = .returned (.bool false) ∧ w' = w := by
  have dl : ((n : Int) != (m : Int)) = true := by
    rw [bne_iff_ne]
    intro e
    exact hn (by omega)
  clear hn
  go_enter Tryz.func79, Tryz.ntmps79
  go_wp2
  go_ret
  exact ⟨rfl, rfl⟩
/-- two lists of numbers compared -/
theorem eqInts_calls (w0 : World) (a1 : Option Addr) (n c : Nat) (xs : List Int) (a2 : Option Addr) (m d : Nat) (ys : List Int) (hx : Ints .i64 w0 (.slice a1 n c) xs) (hy : Ints .i64 w0 (.slice a2 m d) ys) (w : World) (hu : Up w0 w) :
    Calls Tryz.prog 79 #[.slice a1 n c, .slice a2 m d] w fun e w' => e = .returned (.bool (decide (xs = ys))) ∧ Up w w' := by
  obtain ⟨b1, c1, hv, h1, h2, h3, h4, h5⟩ := hx
  injection hv with e1 e2 e3
  subst e1 e2 e3
  obtain ⟨b2, c2, hv, k1, k2, k3, k4, k5⟩ := hy
  injection hv with e1 e2 e3
  subst e1 e2 e3
  by_cases hn : xs.length = ys.length
  · by_cases h0 : 0 < xs.length
    · obtain ⟨g1, o1, rfl, hg1, hc1⟩ := h4 h0
      obtain ⟨g2, o2, rfl, hg2, hc2⟩ := k4 (by omega)
      refine (Tryz.slices_Equal_int g1 o1 xs.length c g2 o2 ys.length d xs ys w (Nat.le_refl _) (Nat.le_refl _) (by omega) (by omega) (fun j hj => (hu.cells.1 g1 _ hg1).trans (hc1 j hj)) (fun j hj => (hu.cells.1 g2 _ hg2).trans (hc2 j hj))).mono ?_
      rintro e w' ⟨rfl, q, rfl⟩
      refine ⟨?_, up_drewN q⟩
      rw [List.take_length, List.take_length]
      congr 2
      by_cases he : xs = ys
      · subst he; simp
      · rw [decide_eq_false he]; exact beq_eq_false_iff_ne.2 he
    · have e1 : xs = [] := List.eq_nil_of_length_eq_zero (by omega)
      subst e1
      refine (Tryz.slices_Equal_int_empty a1 a2 c ys.length d w (by omega)).mono ?_
      rintro e w' ⟨rfl, rfl⟩
      have e2 : ys = [] := List.eq_nil_of_length_eq_zero (by rw [← hn]; rfl)
      subst e2
      exact ⟨rfl, Up.refl _⟩
  · refine (eqInts_lens a1 a2 xs.length c ys.length d w hn).mono ?_
    rintro e w' ⟨rfl, rfl⟩
    exact ⟨by rw [decide_eq_false (fun e => hn (by rw [e]))], Up.refl _⟩

set_option maxRecDepth 8000 in
set_option maxHeartbeats 60000000 in
theorem drawn_calls (wd cap jn mt ph : Int) (da : Option Addr) (dl dc : Nat) (ds : List Int) (fc sc : Col) (wo co jo mo po : Int) (ea : Option Addr) (el ec : Nat) (eds : List Int) (ou : Sm) (cv fv : Value) (B b : Nat) (bs : List UInt8) (w0 w : World) (h : WBuf (⟨⟨fc, sc, wo, co, jo, mo, .slice ea el ec, po⟩, ou, cv, fv⟩ : Wm).R B b bs w) (hBw : B ≤ w.heap.size) (hd : Ints .i64 w0 (.slice da dl dc) ds) (he : Ints .i64 w0 (.slice ea el ec) eds) (hdn : ds.length = dl) (hdl : dl ≤ 1000) (hf : Fit wd ∧ Fit cap ∧ Fit jn ∧ Fit mt ∧ Fit ph) (hdf : ∀ z ∈ ds, Fit z) (h0 : w0.heap.size ≤ B) (hu : Up w0 w) (ht : PTab w0) (hlim : bs.length + 300000000 ≤ 140737488355328) :
    Calls Tryz.prog 44 #[.pointer (some ⟨b, 0, none⟩), .agg #[.int .i64 wd, .int .i64 cap, .int .i64 jn, .int .i64 mt, .slice da dl dc, .int .i64 ph]] w fun e w' => e = .returned (.tuple #[]) ∧ WBuf (⟨⟨fc, sc, wd, cap, jn, mt, .slice da dl dc, ph⟩, ou, cv, fv⟩ : Wm).R B b (bs ++ penB ⟨wo, co, jo, mo, eds, po⟩ ⟨wd, cap, jn, mt, ds, ph⟩) w' ∧ Below B w w' ∧ OK b w w' := by
  have hb := LibA.IsBuffer.lt h
  have hBb := h.1
  have H := Lib.hid h
  have HD := Lib.hid hd
  have HDL := Lib.hid hdn
  have HDF := Lib.hid hdf
  have HUP0 := Lib.hid hu
  have HEQ := Lib.hid (fun (W : World) (hW : Up w0 W) => eqInts_calls w0 da dl dc ds ea el ec eds hd he W hW)
  have HT := Lib.hid (fun (W : World) (hW : Up w0 W) => ht.up hW)
  have HLIM := Lib.hid hlim
  obtain ⟨⟨w1_, w2_⟩, ⟨c1, c2⟩, ⟨j1, j2⟩, ⟨m1, m2⟩, ⟨p1, p2⟩⟩ := hf
  have one : ∀ (op : List UInt8) (z : Int), op.length ≤ 100 → Fit z → (lineB op [z]).length ≤ 100200 := fun op z ho hz => by have := prP_len z hz.1 hz.2; simp only [lineB, numsB, List.flatMap_cons, List.flatMap_nil, List.append_nil, List.length_append, List.length_cons, List.length_nil]; omega
  have two : ∀ (op : List UInt8) (z : Int), op.length ≤ 100 → Fit z → (digB z op).length ≤ 300 := fun op z ho hz => by have := intL_len z hz.1 hz.2; simp only [digB, List.length_append, List.length_cons, List.length_nil]; omega
  have HLW := Lib.hid (one [119] wd (by decide) ⟨w1_, w2_⟩)
  have HLM := Lib.hid (one [77] mt (by decide) ⟨m1, m2⟩)
  have HLC := Lib.hid (two [74] cap (by decide) ⟨c1, c2⟩)
  have HLJ := Lib.hid (two [106] jn (by decide) ⟨j1, j2⟩)
  have hlen0 : bs.length + 300000000 ≤ 140737488355328 := hlim
  clear h hd he hdn hdf hu ht hlim one two
  go_enter Tryz.func44, Tryz.ntmps44
  go_wp2
  have HX0 := Lib.hid (Bx.new 47 (by decide) w #[.int .i64 wd, .int .i64 cap, .int .i64 jn, .int .i64 mt, .slice da dl dc, .int .i64 ph])
  have HI0 := Lib.hid (H.out.old (show Up w (w.alloc (.cells #[.int .i64 wd, .int .i64 cap, .int .i64 jn, .int .i64 mt, .slice da dl dc, .int .i64 ph] 47)) by (repeat' (first | (with_reducible first | exact Up.refl _ | assumption | refine Up.alloc ?_ _ | refine Up.drew ?_ | refine Up.drewN ?_ _ | refine Up.setCell ?_ ?_ _ | refine Up.call ?_ (by assumption)) | go_size))))
  have HB0 := Lib.hid ((show Up w (w.alloc (.cells #[.int .i64 wd, .int .i64 cap, .int .i64 jn, .int .i64 mt, .slice da dl dc, .int .i64 ph] 47)) by (repeat' (first | (with_reducible first | exact Up.refl _ | assumption | refine Up.alloc ?_ _ | refine Up.drew ?_ | refine Up.drewN ?_ _ | refine Up.setCell ?_ ?_ _ | refine Up.call ?_ (by assumption)) | go_size))).mono hBw)
  have HO0 := Lib.hid ((OK.refl b w).upc (show Up w (w.alloc (.cells #[.int .i64 wd, .int .i64 cap, .int .i64 jn, .int .i64 mt, .slice da dl dc, .int .i64 ph] 47)) by (repeat' (first | (with_reducible first | exact Up.refl _ | assumption | refine Up.alloc ?_ _ | refine Up.drew ?_ | refine Up.drewN ?_ _ | refine Up.setCell ?_ ?_ _ | refine Up.call ?_ (by assumption)) | go_size))))
  generalize hW0 : (w.alloc (.cells #[.int .i64 wd, .int .i64 cap, .int .i64 jn, .int .i64 mt, .slice da dl dc, .int .i64 ph] 47)) = w0_ at HX0 HI0 HB0 HO0 ⊢
  clear hW0
  have x00 := HX0.out.cell 0 rfl; have x01 := HX0.out.cell 1 rfl; have x02 := HX0.out.cell 2 rfl; have x03 := HX0.out.cell 3 rfl; have x04 := HX0.out.cell 4 rfl; have x05 := HX0.out.cell 5 rfl; have y00 := HI0.out.cell 10 (v := .int .i64 wo) rfl; have y01 := HI0.out.cell 11 (v := .int .i64 co) rfl; have y02 := HI0.out.cell 12 (v := .int .i64 jo) rfl; have y03 := HI0.out.cell 13 (v := .int .i64 mo) rfl; have y04 := HI0.out.cell 14 (v := .slice ea el ec) rfl; have y05 := HI0.out.cell 15 (v := .int .i64 po) rfl; have f0_0 := HI0.out.free 13; have f0_1 := HI0.out.free 14; have f0_2 := HI0.out.free 15; have f0_3 := HI0.out.free 16; have f0_4 := HI0.out.free 17; have f0_5 := HI0.out.free 18; have lx0 := HX0.out.lt; have lb0 := LibA.IsBuffer.lt HI0.out; have zz0 := HB0.out.size
  have PL0 := Lib.hid (show (if wd = wo then [] else lineB [119] [wd]).length ≤ 100200 by split <;> first | exact Nat.zero_le _ | (have := HLW.out; omega))
  have PL1 := Lib.hid (show (if cap = co then [] else digB cap [74]).length ≤ 100200 by split <;> first | exact Nat.zero_le _ | (have := HLC.out; omega))
  have PL2 := Lib.hid (show (if jn = jo then [] else digB jn [106]).length ≤ 100200 by split <;> first | exact Nat.zero_le _ | (have := HLJ.out; omega))
  have PL3 := Lib.hid (show (if mt = mo then [] else lineB [77] [mt]).length ≤ 100200 by split <;> first | exact Nat.zero_le _ | (have := HLM.out; omega))
  go_region
  go_upto_if 12 with fail
  go_cut [] from 4 (fun wx => Hid (WBuf (⟨⟨fc, sc, wo, co, jo, mo, .slice ea el ec, po⟩, ou, cv, fv⟩ : Wm).R B b (bs ++ (if wd = wo then [] else lineB [119] [wd])) wx ∧ Below B w wx ∧ OK b w wx ∧ Bx 47 wx w.heap.size #[.int .i64 wd, .int .i64 cap, .int .i64 jn, .int .i64 mt, .slice da dl dc, .int .i64 ph]))
  case first =>
    by_cases t0 : wd = wo
    · have d0 : ((wd : Int) != wo) = false := by simp [t0]
      have T0 := Lib.hid t0
      clear t0
      go_wp2
      go_meet
      case rel => exact Lib.hid ⟨by rw [if_pos T0.out, List.append_nil]; exact HI0.out.old (by (repeat' (first | (with_reducible first | exact Up.refl _ | assumption | refine Up.alloc ?_ _ | refine Up.drew ?_ | refine Up.drewN ?_ _ | refine Up.setCell ?_ ?_ _ | refine Up.call ?_ (by assumption)) | go_size))), HB0.out.trans ((show Up w0_ _ by (repeat' (first | (with_reducible first | exact Up.refl _ | assumption | refine Up.alloc ?_ _ | refine Up.drew ?_ | refine Up.drewN ?_ _ | refine Up.setCell ?_ ?_ _ | refine Up.call ?_ (by assumption)) | go_size))).mono (by omega)), HO0.out.upc (show Up w0_ _ by (repeat' (first | (with_reducible first | exact Up.refl _ | assumption | refine Up.alloc ?_ _ | refine Up.drew ?_ | refine Up.drewN ?_ _ | refine Up.setCell ?_ ?_ _ | refine Up.call ?_ (by assumption)) | go_size))), HX0.out.up (show Up w0_ _ by (repeat' (first | (with_reducible first | exact Up.refl _ | assumption | refine Up.alloc ?_ _ | refine Up.drew ?_ | refine Up.drewN ?_ _ | refine Up.setCell ?_ ?_ _ | refine Up.call ?_ (by assumption)) | go_size)))⟩
    · have d0 : ((wd : Int) != wo) = true := by simp [t0]
      have T0 := Lib.hid t0
      clear t0
      go_wp2_with (go_at_call 21; ((refine (line_calls _ B b (bs) [119] (some ⟨w0_.heap.size, 0, none⟩) 1 1 [wd] _ (HI0.out.old (by (repeat' (first | (with_reducible first | exact Up.refl _ | assumption | refine Up.alloc ?_ _ | refine Up.drew ?_ | refine Up.drewN ?_ _ | refine Up.setCell ?_ ?_ _ | refine Up.call ?_ (by assumption)) | go_size)))) (by first | (simp; omega) | omega) (by first | exact irow_at [wd] (by simp) (by omega) rfl (by decide) | exact IRow.up (irow_at [wd] (by simp) (by omega) rfl (by decide)) (Up.drew (Up.refl _))) (fun z hz => by simp only [List.mem_cons, List.not_mem_nil, or_false] at hz; rcases hz with rfl; constructor <;> omega) (by decide) (by have h1 := HLIM.out; (try simp only [List.length_append, List.length_cons, List.length_nil]); omega)).mono ?_); rintro e w9 ⟨rfl, hI, hb2, ho2⟩; have HI9 := Lib.hid hI; have HB9 := Lib.hid (HB0.out.trans (Below.trans ((show Up w0_ _ by (repeat' (first | (with_reducible first | exact Up.refl _ | assumption | refine Up.alloc ?_ _ | refine Up.drew ?_ | refine Up.drewN ?_ _ | refine Up.setCell ?_ ?_ _ | refine Up.call ?_ (by assumption)) | go_size))).mono (by omega)) hb2)); have HO9 := Lib.hid (HO0.out.tr (((OK.refl b w0_).upc (show Up w0_ _ by (repeat' (first | (with_reducible first | exact Up.refl _ | assumption | refine Up.alloc ?_ _ | refine Up.drew ?_ | refine Up.drewN ?_ _ | refine Up.setCell ?_ ?_ _ | refine Up.call ?_ (by assumption)) | go_size)))).tr ho2)); have HX9 := Lib.hid ((HX0.out.up (show Up w0_ _ by (repeat' (first | (with_reducible first | exact Up.refl _ | assumption | refine Up.alloc ?_ _ | refine Up.drew ?_ | refine Up.drewN ?_ _ | refine Up.setCell ?_ ?_ _ | refine Up.call ?_ (by assumption)) | go_size)))).kept ho2 (by omega)); clear hI hb2 ho2; clear x00 y00 f0_0 x01 y01 f0_1 x02 y02 f0_2 x03 y03 f0_3 x04 y04 f0_4 x05 y05 f0_5 lx0 lb0; have x90 := HX9.out.cell 0 rfl; have x91 := HX9.out.cell 1 rfl; have x92 := HX9.out.cell 2 rfl; have x93 := HX9.out.cell 3 rfl; have x94 := HX9.out.cell 4 rfl; have x95 := HX9.out.cell 5 rfl; have y90 := HI9.out.cell 10 (v := .int .i64 wo) rfl; have y91 := HI9.out.cell 11 (v := .int .i64 co) rfl; have y92 := HI9.out.cell 12 (v := .int .i64 jo) rfl; have y93 := HI9.out.cell 13 (v := .int .i64 mo) rfl; have y94 := HI9.out.cell 14 (v := .slice ea el ec) rfl; have y95 := HI9.out.cell 15 (v := .int .i64 po) rfl; have f9_0 := HI9.out.free 13; have f9_1 := HI9.out.free 14; have f9_2 := HI9.out.free 15; have f9_3 := HI9.out.free 16; have f9_4 := HI9.out.free 17; have f9_5 := HI9.out.free 18; have lx9 := HX9.out.lt; have lb9 := LibA.IsBuffer.lt HI9.out; have zz9 := HB9.out.size))
      go_meet
      case rel => exact Lib.hid ⟨by rw [if_neg T0.out]; exact HI9.out, HB9.out, HO9.out, HX9.out⟩
  have HI1 := Lib.hid hcut.out.1; have HB1 := Lib.hid hcut.out.2.1; have HO1 := Lib.hid hcut.out.2.2.1; have HX1 := Lib.hid hcut.out.2.2.2
  clear hcut
  rename World => w1
  clear x00 y00 f0_0 x01 y01 f0_1 x02 y02 f0_2 x03 y03 f0_3 x04 y04 f0_4 x05 y05 f0_5 lx0 lb0
  have x10 := HX1.out.cell 0 rfl; have x11 := HX1.out.cell 1 rfl; have x12 := HX1.out.cell 2 rfl; have x13 := HX1.out.cell 3 rfl; have x14 := HX1.out.cell 4 rfl; have x15 := HX1.out.cell 5 rfl; have y10 := HI1.out.cell 10 (v := .int .i64 wo) rfl; have y11 := HI1.out.cell 11 (v := .int .i64 co) rfl; have y12 := HI1.out.cell 12 (v := .int .i64 jo) rfl; have y13 := HI1.out.cell 13 (v := .int .i64 mo) rfl; have y14 := HI1.out.cell 14 (v := .slice ea el ec) rfl; have y15 := HI1.out.cell 15 (v := .int .i64 po) rfl; have f1_0 := HI1.out.free 13; have f1_1 := HI1.out.free 14; have f1_2 := HI1.out.free 15; have f1_3 := HI1.out.free 16; have f1_4 := HI1.out.free 17; have f1_5 := HI1.out.free 18; have lx1 := HX1.out.lt; have lb1 := LibA.IsBuffer.lt HI1.out; have zz1 := HB1.out.size
  go_wp2
  go_region
  go_upto_if 26 with fail
  go_cut [] from 18 (fun wx => Hid (WBuf (⟨⟨fc, sc, wo, co, jo, mo, .slice ea el ec, po⟩, ou, cv, fv⟩ : Wm).R B b (bs ++ (if wd = wo then [] else lineB [119] [wd]) ++ (if cap = co then [] else digB cap [74])) wx ∧ Below B w wx ∧ OK b w wx ∧ Bx 47 wx w.heap.size #[.int .i64 wd, .int .i64 cap, .int .i64 jn, .int .i64 mt, .slice da dl dc, .int .i64 ph]))
  case first =>
    by_cases t1 : cap = co
    · have d1 : ((cap : Int) != co) = false := by simp [t1]
      have T1 := Lib.hid t1
      clear t1
      go_wp2
      go_meet
      case rel => exact Lib.hid ⟨by rw [if_pos T1.out, List.append_nil]; exact HI1.out.old (by (repeat' (first | (with_reducible first | exact Up.refl _ | assumption | refine Up.alloc ?_ _ | refine Up.drew ?_ | refine Up.drewN ?_ _ | refine Up.setCell ?_ ?_ _ | refine Up.call ?_ (by assumption)) | go_size))), HB1.out.trans ((show Up w1 _ by (repeat' (first | (with_reducible first | exact Up.refl _ | assumption | refine Up.alloc ?_ _ | refine Up.drew ?_ | refine Up.drewN ?_ _ | refine Up.setCell ?_ ?_ _ | refine Up.call ?_ (by assumption)) | go_size))).mono (by omega)), HO1.out.upc (show Up w1 _ by (repeat' (first | (with_reducible first | exact Up.refl _ | assumption | refine Up.alloc ?_ _ | refine Up.drew ?_ | refine Up.drewN ?_ _ | refine Up.setCell ?_ ?_ _ | refine Up.call ?_ (by assumption)) | go_size))), HX1.out.up (show Up w1 _ by (repeat' (first | (with_reducible first | exact Up.refl _ | assumption | refine Up.alloc ?_ _ | refine Up.drew ?_ | refine Up.drewN ?_ _ | refine Up.setCell ?_ ?_ _ | refine Up.call ?_ (by assumption)) | go_size)))⟩
    · have d1 : ((cap : Int) != co) = true := by simp [t1]
      have T1 := Lib.hid t1
      clear t1
      go_wp2_with (go_at_call 78; ((refine (digit_calls _ B b (bs ++ (if wd = wo then [] else lineB [119] [wd])) [74] cap _ (HI1.out.old (by (repeat' (first | (with_reducible first | exact Up.refl _ | assumption | refine Up.alloc ?_ _ | refine Up.drew ?_ | refine Up.drewN ?_ _ | refine Up.setCell ?_ ?_ _ | refine Up.call ?_ (by assumption)) | go_size)))) (by first | (simp; omega) | omega) ⟨c1, c2⟩ (by decide) (by exact HT.out _ (by first | exact (up_below HUP0.out HB1.out h0).call (by (repeat' (first | (with_reducible first | exact Up.refl _ | assumption | refine Up.alloc ?_ _ | refine Up.drew ?_ | refine Up.drewN ?_ _ | refine Up.setCell ?_ ?_ _ | refine Up.call ?_ (by assumption)) | go_size))) | (repeat' (first | (with_reducible first | exact Up.refl _ | assumption | refine Up.alloc ?_ _ | refine Up.drew ?_ | refine Up.drewN ?_ _ | refine Up.setCell ?_ ?_ _ | refine Up.call ?_ (by assumption)) | go_size)))) (by have h1 := HLIM.out; have l0 := PL0.out; (try simp only [List.length_append, List.length_cons, List.length_nil]); omega)).mono ?_); rintro e w9 ⟨rfl, hI, hb2, ho2⟩; have HI9 := Lib.hid hI; have HB9 := Lib.hid (HB1.out.trans (Below.trans ((show Up w1 _ by (repeat' (first | (with_reducible first | exact Up.refl _ | assumption | refine Up.alloc ?_ _ | refine Up.drew ?_ | refine Up.drewN ?_ _ | refine Up.setCell ?_ ?_ _ | refine Up.call ?_ (by assumption)) | go_size))).mono (by omega)) hb2)); have HO9 := Lib.hid (HO1.out.tr (((OK.refl b w1).upc (show Up w1 _ by (repeat' (first | (with_reducible first | exact Up.refl _ | assumption | refine Up.alloc ?_ _ | refine Up.drew ?_ | refine Up.drewN ?_ _ | refine Up.setCell ?_ ?_ _ | refine Up.call ?_ (by assumption)) | go_size)))).tr ho2)); have HX9 := Lib.hid ((HX1.out.up (show Up w1 _ by (repeat' (first | (with_reducible first | exact Up.refl _ | assumption | refine Up.alloc ?_ _ | refine Up.drew ?_ | refine Up.drewN ?_ _ | refine Up.setCell ?_ ?_ _ | refine Up.call ?_ (by assumption)) | go_size)))).kept ho2 (by omega)); clear hI hb2 ho2; clear x10 y10 f1_0 x11 y11 f1_1 x12 y12 f1_2 x13 y13 f1_3 x14 y14 f1_4 x15 y15 f1_5 lx1 lb1; have x90 := HX9.out.cell 0 rfl; have x91 := HX9.out.cell 1 rfl; have x92 := HX9.out.cell 2 rfl; have x93 := HX9.out.cell 3 rfl; have x94 := HX9.out.cell 4 rfl; have x95 := HX9.out.cell 5 rfl; have y90 := HI9.out.cell 10 (v := .int .i64 wo) rfl; have y91 := HI9.out.cell 11 (v := .int .i64 co) rfl; have y92 := HI9.out.cell 12 (v := .int .i64 jo) rfl; have y93 := HI9.out.cell 13 (v := .int .i64 mo) rfl; have y94 := HI9.out.cell 14 (v := .slice ea el ec) rfl; have y95 := HI9.out.cell 15 (v := .int .i64 po) rfl; have f9_0 := HI9.out.free 13; have f9_1 := HI9.out.free 14; have f9_2 := HI9.out.free 15; have f9_3 := HI9.out.free 16; have f9_4 := HI9.out.free 17; have f9_5 := HI9.out.free 18; have lx9 := HX9.out.lt; have lb9 := LibA.IsBuffer.lt HI9.out; have zz9 := HB9.out.size))
      go_meet
      case rel => exact Lib.hid ⟨by rw [if_neg T1.out]; exact HI9.out, HB9.out, HO9.out, HX9.out⟩
  have HI2 := Lib.hid hcut.out.1; have HB2 := Lib.hid hcut.out.2.1; have HO2 := Lib.hid hcut.out.2.2.1; have HX2 := Lib.hid hcut.out.2.2.2
  clear hcut
  rename World => w2
  clear x10 y10 f1_0 x11 y11 f1_1 x12 y12 f1_2 x13 y13 f1_3 x14 y14 f1_4 x15 y15 f1_5 lx1 lb1
  have x20 := HX2.out.cell 0 rfl; have x21 := HX2.out.cell 1 rfl; have x22 := HX2.out.cell 2 rfl; have x23 := HX2.out.cell 3 rfl; have x24 := HX2.out.cell 4 rfl; have x25 := HX2.out.cell 5 rfl; have y20 := HI2.out.cell 10 (v := .int .i64 wo) rfl; have y21 := HI2.out.cell 11 (v := .int .i64 co) rfl; have y22 := HI2.out.cell 12 (v := .int .i64 jo) rfl; have y23 := HI2.out.cell 13 (v := .int .i64 mo) rfl; have y24 := HI2.out.cell 14 (v := .slice ea el ec) rfl; have y25 := HI2.out.cell 15 (v := .int .i64 po) rfl; have f2_0 := HI2.out.free 13; have f2_1 := HI2.out.free 14; have f2_2 := HI2.out.free 15; have f2_3 := HI2.out.free 16; have f2_4 := HI2.out.free 17; have f2_5 := HI2.out.free 18; have lx2 := HX2.out.lt; have lb2 := LibA.IsBuffer.lt HI2.out; have zz2 := HB2.out.size
  go_wp2
  go_region
  go_upto_if 39 with fail
  go_cut [] from 31 (fun wx => Hid (WBuf (⟨⟨fc, sc, wo, co, jo, mo, .slice ea el ec, po⟩, ou, cv, fv⟩ : Wm).R B b (bs ++ (if wd = wo then [] else lineB [119] [wd]) ++ (if cap = co then [] else digB cap [74]) ++ (if jn = jo then [] else digB jn [106])) wx ∧ Below B w wx ∧ OK b w wx ∧ Bx 47 wx w.heap.size #[.int .i64 wd, .int .i64 cap, .int .i64 jn, .int .i64 mt, .slice da dl dc, .int .i64 ph]))
  case first =>
    by_cases t2 : jn = jo
    · have d2 : ((jn : Int) != jo) = false := by simp [t2]
      have T2 := Lib.hid t2
      clear t2
      go_wp2
      go_meet
      case rel => exact Lib.hid ⟨by rw [if_pos T2.out, List.append_nil]; exact HI2.out.old (by (repeat' (first | (with_reducible first | exact Up.refl _ | assumption | refine Up.alloc ?_ _ | refine Up.drew ?_ | refine Up.drewN ?_ _ | refine Up.setCell ?_ ?_ _ | refine Up.call ?_ (by assumption)) | go_size))), HB2.out.trans ((show Up w2 _ by (repeat' (first | (with_reducible first | exact Up.refl _ | assumption | refine Up.alloc ?_ _ | refine Up.drew ?_ | refine Up.drewN ?_ _ | refine Up.setCell ?_ ?_ _ | refine Up.call ?_ (by assumption)) | go_size))).mono (by omega)), HO2.out.upc (show Up w2 _ by (repeat' (first | (with_reducible first | exact Up.refl _ | assumption | refine Up.alloc ?_ _ | refine Up.drew ?_ | refine Up.drewN ?_ _ | refine Up.setCell ?_ ?_ _ | refine Up.call ?_ (by assumption)) | go_size))), HX2.out.up (show Up w2 _ by (repeat' (first | (with_reducible first | exact Up.refl _ | assumption | refine Up.alloc ?_ _ | refine Up.drew ?_ | refine Up.drewN ?_ _ | refine Up.setCell ?_ ?_ _ | refine Up.call ?_ (by assumption)) | go_size)))⟩
    · have d2 : ((jn : Int) != jo) = true := by simp [t2]
      have T2 := Lib.hid t2
      clear t2
      go_wp2_with (go_at_call 78; ((refine (digit_calls _ B b (bs ++ (if wd = wo then [] else lineB [119] [wd]) ++ (if cap = co then [] else digB cap [74])) [106] jn _ (HI2.out.old (by (repeat' (first | (with_reducible first | exact Up.refl _ | assumption | refine Up.alloc ?_ _ | refine Up.drew ?_ | refine Up.drewN ?_ _ | refine Up.setCell ?_ ?_ _ | refine Up.call ?_ (by assumption)) | go_size)))) (by first | (simp; omega) | omega) ⟨j1, j2⟩ (by decide) (by exact HT.out _ (by first | exact (up_below HUP0.out HB2.out h0).call (by (repeat' (first | (with_reducible first | exact Up.refl _ | assumption | refine Up.alloc ?_ _ | refine Up.drew ?_ | refine Up.drewN ?_ _ | refine Up.setCell ?_ ?_ _ | refine Up.call ?_ (by assumption)) | go_size))) | (repeat' (first | (with_reducible first | exact Up.refl _ | assumption | refine Up.alloc ?_ _ | refine Up.drew ?_ | refine Up.drewN ?_ _ | refine Up.setCell ?_ ?_ _ | refine Up.call ?_ (by assumption)) | go_size)))) (by have h1 := HLIM.out; have l0 := PL0.out; have l1 := PL1.out; (try simp only [List.length_append, List.length_cons, List.length_nil]); omega)).mono ?_); rintro e w9 ⟨rfl, hI, hb2, ho2⟩; have HI9 := Lib.hid hI; have HB9 := Lib.hid (HB2.out.trans (Below.trans ((show Up w2 _ by (repeat' (first | (with_reducible first | exact Up.refl _ | assumption | refine Up.alloc ?_ _ | refine Up.drew ?_ | refine Up.drewN ?_ _ | refine Up.setCell ?_ ?_ _ | refine Up.call ?_ (by assumption)) | go_size))).mono (by omega)) hb2)); have HO9 := Lib.hid (HO2.out.tr (((OK.refl b w2).upc (show Up w2 _ by (repeat' (first | (with_reducible first | exact Up.refl _ | assumption | refine Up.alloc ?_ _ | refine Up.drew ?_ | refine Up.drewN ?_ _ | refine Up.setCell ?_ ?_ _ | refine Up.call ?_ (by assumption)) | go_size)))).tr ho2)); have HX9 := Lib.hid ((HX2.out.up (show Up w2 _ by (repeat' (first | (with_reducible first | exact Up.refl _ | assumption | refine Up.alloc ?_ _ | refine Up.drew ?_ | refine Up.drewN ?_ _ | refine Up.setCell ?_ ?_ _ | refine Up.call ?_ (by assumption)) | go_size)))).kept ho2 (by omega)); clear hI hb2 ho2; clear x20 y20 f2_0 x21 y21 f2_1 x22 y22 f2_2 x23 y23 f2_3 x24 y24 f2_4 x25 y25 f2_5 lx2 lb2; have x90 := HX9.out.cell 0 rfl; have x91 := HX9.out.cell 1 rfl; have x92 := HX9.out.cell 2 rfl; have x93 := HX9.out.cell 3 rfl; have x94 := HX9.out.cell 4 rfl; have x95 := HX9.out.cell 5 rfl; have y90 := HI9.out.cell 10 (v := .int .i64 wo) rfl; have y91 := HI9.out.cell 11 (v := .int .i64 co) rfl; have y92 := HI9.out.cell 12 (v := .int .i64 jo) rfl; have y93 := HI9.out.cell 13 (v := .int .i64 mo) rfl; have y94 := HI9.out.cell 14 (v := .slice ea el ec) rfl; have y95 := HI9.out.cell 15 (v := .int .i64 po) rfl; have f9_0 := HI9.out.free 13; have f9_1 := HI9.out.free 14; have f9_2 := HI9.out.free 15; have f9_3 := HI9.out.free 16; have f9_4 := HI9.out.free 17; have f9_5 := HI9.out.free 18; have lx9 := HX9.out.lt; have lb9 := LibA.IsBuffer.lt HI9.out; have zz9 := HB9.out.size))
      go_meet
      case rel => exact Lib.hid ⟨by rw [if_neg T2.out]; exact HI9.out, HB9.out, HO9.out, HX9.out⟩
  have HI3 := Lib.hid hcut.out.1; have HB3 := Lib.hid hcut.out.2.1; have HO3 := Lib.hid hcut.out.2.2.1; have HX3 := Lib.hid hcut.out.2.2.2
  clear hcut
  rename World => w3
  clear x20 y20 f2_0 x21 y21 f2_1 x22 y22 f2_2 x23 y23 f2_3 x24 y24 f2_4 x25 y25 f2_5 lx2 lb2
  have x30 := HX3.out.cell 0 rfl; have x31 := HX3.out.cell 1 rfl; have x32 := HX3.out.cell 2 rfl; have x33 := HX3.out.cell 3 rfl; have x34 := HX3.out.cell 4 rfl; have x35 := HX3.out.cell 5 rfl; have y30 := HI3.out.cell 10 (v := .int .i64 wo) rfl; have y31 := HI3.out.cell 11 (v := .int .i64 co) rfl; have y32 := HI3.out.cell 12 (v := .int .i64 jo) rfl; have y33 := HI3.out.cell 13 (v := .int .i64 mo) rfl; have y34 := HI3.out.cell 14 (v := .slice ea el ec) rfl; have y35 := HI3.out.cell 15 (v := .int .i64 po) rfl; have f3_0 := HI3.out.free 13; have f3_1 := HI3.out.free 14; have f3_2 := HI3.out.free 15; have f3_3 := HI3.out.free 16; have f3_4 := HI3.out.free 17; have f3_5 := HI3.out.free 18; have lx3 := HX3.out.lt; have lb3 := LibA.IsBuffer.lt HI3.out; have zz3 := HB3.out.size
  go_wp2
  go_region
  go_upto_if 52 with fail
  go_cut [] from 44 (fun wx => Hid (WBuf (⟨⟨fc, sc, wo, co, jo, mo, .slice ea el ec, po⟩, ou, cv, fv⟩ : Wm).R B b (bs ++ (if wd = wo then [] else lineB [119] [wd]) ++ (if cap = co then [] else digB cap [74]) ++ (if jn = jo then [] else digB jn [106]) ++ (if mt = mo then [] else lineB [77] [mt])) wx ∧ Below B w wx ∧ OK b w wx ∧ Bx 47 wx w.heap.size #[.int .i64 wd, .int .i64 cap, .int .i64 jn, .int .i64 mt, .slice da dl dc, .int .i64 ph]))
  case first =>
    by_cases t3 : mt = mo
    · have d3 : ((mt : Int) != mo) = false := by simp [t3]
      have T3 := Lib.hid t3
      clear t3
      go_wp2
      go_meet
      case rel => exact Lib.hid ⟨by rw [if_pos T3.out, List.append_nil]; exact HI3.out.old (by (repeat' (first | (with_reducible first | exact Up.refl _ | assumption | refine Up.alloc ?_ _ | refine Up.drew ?_ | refine Up.drewN ?_ _ | refine Up.setCell ?_ ?_ _ | refine Up.call ?_ (by assumption)) | go_size))), HB3.out.trans ((show Up w3 _ by (repeat' (first | (with_reducible first | exact Up.refl _ | assumption | refine Up.alloc ?_ _ | refine Up.drew ?_ | refine Up.drewN ?_ _ | refine Up.setCell ?_ ?_ _ | refine Up.call ?_ (by assumption)) | go_size))).mono (by omega)), HO3.out.upc (show Up w3 _ by (repeat' (first | (with_reducible first | exact Up.refl _ | assumption | refine Up.alloc ?_ _ | refine Up.drew ?_ | refine Up.drewN ?_ _ | refine Up.setCell ?_ ?_ _ | refine Up.call ?_ (by assumption)) | go_size))), HX3.out.up (show Up w3 _ by (repeat' (first | (with_reducible first | exact Up.refl _ | assumption | refine Up.alloc ?_ _ | refine Up.drew ?_ | refine Up.drewN ?_ _ | refine Up.setCell ?_ ?_ _ | refine Up.call ?_ (by assumption)) | go_size)))⟩
    · have d3 : ((mt : Int) != mo) = true := by simp [t3]
      have T3 := Lib.hid t3
      clear t3
      go_wp2_with (go_at_call 21; ((refine (line_calls _ B b (bs ++ (if wd = wo then [] else lineB [119] [wd]) ++ (if cap = co then [] else digB cap [74]) ++ (if jn = jo then [] else digB jn [106])) [77] (some ⟨w3.heap.size, 0, none⟩) 1 1 [mt] _ (HI3.out.old (by (repeat' (first | (with_reducible first | exact Up.refl _ | assumption | refine Up.alloc ?_ _ | refine Up.drew ?_ | refine Up.drewN ?_ _ | refine Up.setCell ?_ ?_ _ | refine Up.call ?_ (by assumption)) | go_size)))) (by first | (simp; omega) | omega) (by first | exact irow_at [mt] (by simp) (by omega) rfl (by decide) | exact IRow.up (irow_at [mt] (by simp) (by omega) rfl (by decide)) (Up.drew (Up.refl _))) (fun z hz => by simp only [List.mem_cons, List.not_mem_nil, or_false] at hz; rcases hz with rfl; constructor <;> omega) (by decide) (by have h1 := HLIM.out; have l0 := PL0.out; have l1 := PL1.out; have l2 := PL2.out; (try simp only [List.length_append, List.length_cons, List.length_nil]); omega)).mono ?_); rintro e w9 ⟨rfl, hI, hb2, ho2⟩; have HI9 := Lib.hid hI; have HB9 := Lib.hid (HB3.out.trans (Below.trans ((show Up w3 _ by (repeat' (first | (with_reducible first | exact Up.refl _ | assumption | refine Up.alloc ?_ _ | refine Up.drew ?_ | refine Up.drewN ?_ _ | refine Up.setCell ?_ ?_ _ | refine Up.call ?_ (by assumption)) | go_size))).mono (by omega)) hb2)); have HO9 := Lib.hid (HO3.out.tr (((OK.refl b w3).upc (show Up w3 _ by (repeat' (first | (with_reducible first | exact Up.refl _ | assumption | refine Up.alloc ?_ _ | refine Up.drew ?_ | refine Up.drewN ?_ _ | refine Up.setCell ?_ ?_ _ | refine Up.call ?_ (by assumption)) | go_size)))).tr ho2)); have HX9 := Lib.hid ((HX3.out.up (show Up w3 _ by (repeat' (first | (with_reducible first | exact Up.refl _ | assumption | refine Up.alloc ?_ _ | refine Up.drew ?_ | refine Up.drewN ?_ _ | refine Up.setCell ?_ ?_ _ | refine Up.call ?_ (by assumption)) | go_size)))).kept ho2 (by omega)); clear hI hb2 ho2; clear x30 y30 f3_0 x31 y31 f3_1 x32 y32 f3_2 x33 y33 f3_3 x34 y34 f3_4 x35 y35 f3_5 lx3 lb3; have x90 := HX9.out.cell 0 rfl; have x91 := HX9.out.cell 1 rfl; have x92 := HX9.out.cell 2 rfl; have x93 := HX9.out.cell 3 rfl; have x94 := HX9.out.cell 4 rfl; have x95 := HX9.out.cell 5 rfl; have y90 := HI9.out.cell 10 (v := .int .i64 wo) rfl; have y91 := HI9.out.cell 11 (v := .int .i64 co) rfl; have y92 := HI9.out.cell 12 (v := .int .i64 jo) rfl; have y93 := HI9.out.cell 13 (v := .int .i64 mo) rfl; have y94 := HI9.out.cell 14 (v := .slice ea el ec) rfl; have y95 := HI9.out.cell 15 (v := .int .i64 po) rfl; have f9_0 := HI9.out.free 13; have f9_1 := HI9.out.free 14; have f9_2 := HI9.out.free 15; have f9_3 := HI9.out.free 16; have f9_4 := HI9.out.free 17; have f9_5 := HI9.out.free 18; have lx9 := HX9.out.lt; have lb9 := LibA.IsBuffer.lt HI9.out; have zz9 := HB9.out.size))
      go_meet
      case rel => exact Lib.hid ⟨by rw [if_neg T3.out]; exact HI9.out, HB9.out, HO9.out, HX9.out⟩
  have HI4 := Lib.hid hcut.out.1; have HB4 := Lib.hid hcut.out.2.1; have HO4 := Lib.hid hcut.out.2.2.1; have HX4 := Lib.hid hcut.out.2.2.2
  clear hcut
  rename World => w4
  clear x30 y30 f3_0 x31 y31 f3_1 x32 y32 f3_2 x33 y33 f3_3 x34 y34 f3_4 x35 y35 f3_5 lx3 lb3
  have x40 := HX4.out.cell 0 rfl; have x41 := HX4.out.cell 1 rfl; have x42 := HX4.out.cell 2 rfl; have x43 := HX4.out.cell 3 rfl; have x44 := HX4.out.cell 4 rfl; have x45 := HX4.out.cell 5 rfl; have y40 := HI4.out.cell 10 (v := .int .i64 wo) rfl; have y41 := HI4.out.cell 11 (v := .int .i64 co) rfl; have y42 := HI4.out.cell 12 (v := .int .i64 jo) rfl; have y43 := HI4.out.cell 13 (v := .int .i64 mo) rfl; have y44 := HI4.out.cell 14 (v := .slice ea el ec) rfl; have y45 := HI4.out.cell 15 (v := .int .i64 po) rfl; have f4_0 := HI4.out.free 13; have f4_1 := HI4.out.free 14; have f4_2 := HI4.out.free 15; have f4_3 := HI4.out.free 16; have f4_4 := HI4.out.free 17; have f4_5 := HI4.out.free 18; have lx4 := HX4.out.lt; have lb4 := LibA.IsBuffer.lt HI4.out; have zz4 := HB4.out.size
  go_wp2
  by_cases t4 : ph = po
  · have d4 : ((ph : Int) != po) = false := by simp [t4]
    by_cases t5 : ds = eds
    · have T4 := Lib.hid (And.intro t4 t5)
      rw [decide_eq_true t5] at HEQ
      clear t4 t5
      refine wp_region_held_drew (S := fun w' => w'.cell? ⟨w.heap.size, 5, none⟩ = some (.int .i64 ph) ∧ w'.cell? ⟨w.heap.size, 4, none⟩ = some (.slice da dl dc) ∧ w'.cell? ⟨b, 18, none⟩ = some (.int .i64 po) ∧ w'.cell? ⟨b, 17, none⟩ = some (.slice ea el ec)) (by kernel_rfl) ?_ (fun hHeld => ?_)
      · exact ⟨x45, x44, y45, y44⟩
      refine wpAnyH_take (i := 0) (v := ?_) rfl (by decide +kernel) (by decide +kernel) (by decide +kernel) (fun _ _ _ h => h) (Or.inl ⟨by rfl, ?_⟩) (by assumption) ?_
      rotate_left
      · intro w2 hSw
        (try dsimp only at hSw)
        (try (obtain ⟨hs1, hs2⟩ := hSw))
        go_simp
        (try (with_reducible rfl))
      (try simp only [Act.put, lga, lgz, lgs, lsa, lsz, lss])
      refine wpAnyH_take (i := 1) (v := ?_) rfl (by decide +kernel) (by decide +kernel) (by decide +kernel) (fun _ _ _ h => h) (Or.inl ⟨by rfl, ?_⟩) (by assumption) ?_
      rotate_left
      · intro w2 hSw
        (try dsimp only at hSw)
        (try (obtain ⟨hs1, hs2⟩ := hSw))
        go_simp
        (try (with_reducible rfl))
      (try simp only [Act.put, lga, lgz, lgs, lsa, lsz, lss])
      refine wpAnyH_take (i := 2) (v := ?_) rfl (by decide +kernel) (by decide +kernel) (by decide +kernel) (fun _ _ _ h => h) (Or.inl ⟨by rfl, ?_⟩) (by assumption) ?_
      rotate_left
      · intro w2 hSw
        (try dsimp only at hSw)
        (try (obtain ⟨hs1, hs2⟩ := hSw))
        go_simp
        (try (with_reducible rfl))
      (try simp only [Act.put, lga, lgz, lgs, lsa, lsz, lss])
      refine wpAnyH_take (i := 3) (v := ?_) rfl (by decide +kernel) (by decide +kernel) (by decide +kernel) (fun _ _ _ h => h) (Or.inl ⟨by rfl, ?_⟩) (by assumption) ?_
      rotate_left
      · intro w2 hSw
        (try dsimp only at hSw)
        (try (obtain ⟨hs1, hs2⟩ := hSw))
        go_simp
        (try (with_reducible rfl))
      (try simp only [Act.put, lga, lgz, lgs, lsa, lsz, lss])
      refine wpAnyH_take (i := 4) (v := ?_) rfl (by decide +kernel) (by decide +kernel) (by decide +kernel) (fun _ _ _ h => h) (Or.inl ⟨by rfl, ?_⟩) (by assumption) ?_
      rotate_left
      · intro w2 hSw
        (try dsimp only at hSw)
        (try (obtain ⟨hs1, hs2⟩ := hSw))
        go_simp
        (try (with_reducible rfl))
      (try simp only [Act.put, lga, lgz, lgs, lsa, lsz, lss])
      refine wpAnyH_take (i := 5) (v := ?_) rfl (by decide +kernel) (by decide +kernel) (by decide +kernel) (fun _ _ _ h => h) (Or.inl ⟨by rfl, ?_⟩) (by assumption) ?_
      rotate_left
      · intro w2 hSw
        (try dsimp only at hSw)
        (try (obtain ⟨hs1, hs2⟩ := hSw))
        go_simp
        (try (with_reducible rfl))
      (try simp only [Act.put, lga, lgz, lgs, lsa, lsz, lss])
      refine wpAnyH_take (i := 6) (v := ?_) rfl (by decide +kernel) (by decide +kernel) (by decide +kernel) (fun _ _ _ h => h) (Or.inl ⟨by rfl, ?_⟩) (by assumption) ?_
      rotate_left
      · intro w2 hSw
        (try dsimp only at hSw)
        (try (obtain ⟨hs1, hs2⟩ := hSw))
        go_simp
        (try (with_reducible rfl))
      (try simp only [Act.put, lga, lgz, lgs, lsa, lsz, lss])
      refine wpAnyH_take (i := 7) (v := ?_) rfl (by decide +kernel) (by decide +kernel) (by decide +kernel) (fun _ _ _ h => h) (Or.inl ⟨by rfl, ?_⟩) (by assumption) ?_
      rotate_left
      · intro w2 hSw
        (try dsimp only at hSw)
        (try (obtain ⟨hs1, hs2⟩ := hSw))
        go_simp
        (try (with_reducible rfl))
      (try simp only [Act.put, lga, lgz, lgs, lsa, lsz, lss])
      refine wpAnyH_take (i := 8) (v := ?_) rfl (by decide +kernel) (by decide +kernel) (by decide +kernel) (fun _ _ _ h => h) (Or.inl ⟨by rfl, ?_⟩) (by assumption) ?_
      rotate_left
      · intro w2 hSw
        (try dsimp only at hSw)
        (try (obtain ⟨hs1, hs2⟩ := hSw))
        go_simp
        (try (with_reducible rfl))
      (try simp only [Act.put, lga, lgz, lgs, lsa, lsz, lss])
      refine wpAnyH_take (i := 9) (v := ?_) rfl (by decide +kernel) (by decide +kernel) (by decide +kernel) (fun _ _ _ h => h) (Or.inl ⟨by rfl, ?_⟩) (by assumption) ?_
      rotate_left
      · intro w2 hSw
        (try dsimp only at hSw)
        (try (obtain ⟨hs1, hs2⟩ := hSw))
        go_simp
        (try (with_reducible rfl))
      (try simp only [Act.put, lga, lgz, lgs, lsa, lsz, lss])
      refine wpAnyH_take (i := 10) (v := ?_) rfl (by decide +kernel) (by decide +kernel) (by decide +kernel) (fun _ _ _ h => h) (Or.inl ⟨by rfl, ?_⟩) (by assumption) ?_
      rotate_left
      · intro w2 hSw
        (try dsimp only at hSw)
        (try (obtain ⟨hs1, hs2⟩ := hSw))
        go_simp
        (try (with_reducible rfl))
      (try simp only [Act.put, lga, lgz, lgs, lsa, lsz, lss])
      refine wpAnyH_take (i := 11) (v := ?_) rfl (by decide +kernel) (by decide +kernel) (by decide +kernel) (fun _ _ _ h => h) (Or.inl ⟨by rfl, ?_⟩) (by assumption) ?_
      rotate_left
      · intro w2 hSw
        (try dsimp only at hSw)
        (try (obtain ⟨hs1, hs2⟩ := hSw))
        go_simp
        (try (with_reducible rfl))
      (try simp only [Act.put, lga, lgz, lgs, lsa, lsz, lss])
      refine wpAnyH_take (i := 12) (v := ?_) rfl (by decide +kernel) (by decide +kernel) (by decide +kernel) (fun _ _ _ h => h) (Or.inl ⟨by rfl, ?_⟩) (by assumption) ?_
      rotate_left
      · intro w2 hSw
        (try dsimp only at hSw)
        (try (obtain ⟨hs1, hs2⟩ := hSw))
        go_simp
        (try (with_reducible rfl))
      (try simp only [Act.put, lga, lgz, lgs, lsa, lsz, lss])
      refine wpAnyH_take (i := 13) (v := ?_) rfl (by decide +kernel) (by decide +kernel) (by decide +kernel) (fun _ _ _ h => h) (Or.inl ⟨by rfl, ?_⟩) (by assumption) ?_
      rotate_left
      · intro w2 hSw
        (try dsimp only at hSw)
        (try (obtain ⟨hs1, hs2⟩ := hSw))
        go_simp
        (try (with_reducible rfl))
      (try simp only [Act.put, lga, lgz, lgs, lsa, lsz, lss])
      refine wpAnyH_take (i := 14) (v := ?_) rfl (by decide +kernel) (by decide +kernel) (by decide +kernel) (fun _ _ _ h => h) (Or.inl ⟨by rfl, ?_⟩) (by assumption) ?_
      rotate_left
      · intro w2 hSw
        (try dsimp only at hSw)
        (try (obtain ⟨hs1, hs2⟩ := hSw))
        go_simp
        (try (with_reducible rfl))
      (try simp only [Act.put, lga, lgz, lgs, lsa, lsz, lss])
      refine wpAnyH_take (i := 15) (v := ?_) rfl (by decide +kernel) (by decide +kernel) (by decide +kernel) (fun _ _ _ h => h) (Or.inl ⟨by rfl, ?_⟩) (by assumption) ?_
      rotate_left
      · intro w2 hSw
        (try dsimp only at hSw)
        (try (obtain ⟨hs1, hs2⟩ := hSw))
        go_simp
        (try (with_reducible rfl))
      (try simp only [Act.put, lga, lgz, lgs, lsa, lsz, lss])
      refine wpAnyH_take (i := 16) (v := ?_) rfl (by decide +kernel) (by decide +kernel) (by decide +kernel) (fun _ _ _ h => h) (Or.inl ⟨by rfl, ?_⟩) (by assumption) ?_
      rotate_left
      · intro w2 hSw
        (try dsimp only at hSw)
        (try (obtain ⟨hs1, hs2⟩ := hSw))
        go_simp
        (try (with_reducible rfl))
      (try simp only [Act.put, lga, lgz, lgs, lsa, lsz, lss])
      refine wpAnyH_take (i := 17) (v := ?_) rfl (by decide +kernel) (by decide +kernel) (by decide +kernel) (fun _ _ _ h => h) (Or.inl ⟨by rfl, ?_⟩) (by assumption) ?_
      rotate_left
      · intro w2 hSw
        (try dsimp only at hSw)
        (try (obtain ⟨hs1, hs2⟩ := hSw))
        go_simp
        (try (with_reducible rfl))
      (try simp only [Act.put, lga, lgz, lgs, lsa, lsz, lss])
      refine wpAnyH_ready (rs := [18]) (by decide +kernel) (by simp) ?_
      refine AllReadyH.cons rfl (fun K hK => ?_) (AllReadyH.nil)
      (try simp only [lga, lgz, lgs])
      (go_simp; go_at_call 79; ((with_reducible refine Calls.mono (HEQ.out _ ?_) ?_); (focus (exact (up_below HUP0.out HB4.out h0).call (by (repeat' (first | (with_reducible first | exact Up.refl _ | assumption | refine Up.alloc ?_ _ | refine Up.drew ?_ | refine Up.drewN ?_ _ | refine Up.setCell ?_ ?_ _ | refine Up.call ?_ (by assumption)) | go_size))))); rintro e w21 ⟨rfl, hu20⟩); (try dsimp only))
      refine hK.out _ _ ?_ (fun hHeld => ?_)
      · exact ⟨(hu20.cells.1 _ 5 (by simp; omega)).trans hHeld.1, (hu20.cells.1 _ 4 (by simp; omega)).trans hHeld.2.1, (hu20.cells.1 _ 18 (by simp; omega)).trans hHeld.2.2.1, (hu20.cells.1 _ 17 (by simp; omega)).trans hHeld.2.2.2⟩
      clear hK K
      (try simp only [Act.put, lga, lgz, lgs, lsa, lsz, lss])
      refine wpAnyH_take (i := 19) (v := ?_) rfl (by decide +kernel) (by decide +kernel) (by decide +kernel) (fun _ _ _ h => h) (Or.inl ⟨by rfl, ?_⟩) (by assumption) ?_
      rotate_left
      · intro w2 hSw
        (try dsimp only at hSw)
        (try (obtain ⟨hs1, hs2⟩ := hSw))
        go_simp
        (try (with_reducible rfl))
      (try simp only [Act.put, lga, lgz, lgs, lsa, lsz, lss])
      refine wpAnyH_take (i := 20) (v := ?_) rfl (by decide +kernel) (by decide +kernel) (by decide +kernel) (fun _ _ _ h => h) (Or.inl ⟨by rfl, ?_⟩) (by assumption) ?_
      rotate_left
      · intro w2 hSw
        (try dsimp only at hSw)
        (try (obtain ⟨hs1, hs2⟩ := hSw))
        go_simp
        (try (with_reducible rfl))
      (try simp only [Act.put, lga, lgz, lgs, lsa, lsz, lss])
      refine wpAnyH_done (by decide +kernel) ?_ _
      clear hHeld
      have HU21 := Lib.hid (show Up w4 w21 by (repeat' (first | (with_reducible first | exact Up.refl _ | assumption | refine Up.alloc ?_ _ | refine Up.drew ?_ | refine Up.drewN ?_ _ | refine Up.setCell ?_ ?_ _ | refine Up.call ?_ (by assumption)) | go_size)))
      have HI21 := Lib.hid (HI4.out.old HU21.out)
      have HB21 := Lib.hid (HB4.out.trans (HU21.out.mono (by omega)))
      have HO21 := Lib.hid (HO4.out.upc HU21.out)
      have HX21 := Lib.hid (HX4.out.up HU21.out)
      clear x40 y40 f4_0 x41 y41 f4_1 x42 y42 f4_2 x43 y43 f4_3 x44 y44 f4_4 x45 y45 f4_5 lx4 lb4
      have x210 := HX21.out.cell 0 rfl; have x211 := HX21.out.cell 1 rfl; have x212 := HX21.out.cell 2 rfl; have x213 := HX21.out.cell 3 rfl; have x214 := HX21.out.cell 4 rfl; have x215 := HX21.out.cell 5 rfl; have y210 := HI21.out.cell 10 (v := .int .i64 wo) rfl; have y211 := HI21.out.cell 11 (v := .int .i64 co) rfl; have y212 := HI21.out.cell 12 (v := .int .i64 jo) rfl; have y213 := HI21.out.cell 13 (v := .int .i64 mo) rfl; have y214 := HI21.out.cell 14 (v := .slice ea el ec) rfl; have y215 := HI21.out.cell 15 (v := .int .i64 po) rfl; have f21_0 := HI21.out.free 13; have f21_1 := HI21.out.free 14; have f21_2 := HI21.out.free 15; have f21_3 := HI21.out.free 16; have f21_4 := HI21.out.free 17; have f21_5 := HI21.out.free 18; have lx21 := HX21.out.lt; have lb21 := LibA.IsBuffer.lt HI21.out; have zz21 := HB21.out.size
      go_wp2
      go_returns
      refine ⟨rfl, ?_, (Below.setCell (Below.setCell (Below.setCell (Below.setCell (Below.setCell (Below.setCell (HB21.out.trans ((show Up w21 _ by (repeat' (first | (with_reducible first | exact Up.refl _ | assumption | refine Up.alloc ?_ _ | refine Up.drew ?_ | refine Up.drewN ?_ _ | refine Up.setCell ?_ ?_ _ | refine Up.call ?_ (by assumption)) | go_size))).mono (by omega))) (p := ⟨b, 13, none⟩) hBb _) (p := ⟨b, 14, none⟩) hBb _) (p := ⟨b, 15, none⟩) hBb _) (p := ⟨b, 16, none⟩) hBb _) (p := ⟨b, 17, none⟩) hBb _) (p := ⟨b, 18, none⟩) hBb _), (OK.setB (OK.setB (OK.setB (OK.setB (OK.setB (OK.setB (HO21.out.upc (show Up w21 _ by (repeat' (first | (with_reducible first | exact Up.refl _ | assumption | refine Up.alloc ?_ _ | refine Up.drew ?_ | refine Up.drewN ?_ _ | refine Up.setCell ?_ ?_ _ | refine Up.call ?_ (by assumption)) | go_size)))) 13 _) 14 _) 15 _) 16 _) 17 _) 18 _)⟩
      have e9 : bs ++ penB ⟨wo, co, jo, mo, eds, po⟩ ⟨wd, cap, jn, mt, ds, ph⟩ = bs ++ (if wd = wo then [] else lineB [119] [wd]) ++ (if cap = co then [] else digB cap [74]) ++ (if jn = jo then [] else digB jn [106]) ++ (if mt = mo then [] else lineB [77] [mt]) := by simp only [penB]; rw [if_pos T4.out]; simp only [List.append_assoc, List.append_nil]
      rw [e9]; exact (((((((HI21.out.old (by (repeat' (first | (with_reducible first | exact Up.refl _ | assumption | refine Up.alloc ?_ _ | refine Up.drew ?_ | refine Up.drewN ?_ _ | refine Up.setCell ?_ ?_ _ | refine Up.call ?_ (by assumption)) | go_size)))).set 10 (by simp [Wm.rest, Sm.cells]) (.int .i64 wd)).set 11 (by simp [Wm.rest, Sm.cells]) (.int .i64 cap)).set 12 (by simp [Wm.rest, Sm.cells]) (.int .i64 jn)).set 13 (by simp [Wm.rest, Sm.cells]) (.int .i64 mt)).set 14 (by simp [Wm.rest, Sm.cells]) (.slice da dl dc)).set 15 (by simp [Wm.rest, Sm.cells]) (.int .i64 ph))
    · have T4 := Lib.hid (show ¬ (ph = po ∧ ds = eds) from fun h => t5 h.2)
      rw [decide_eq_false t5] at HEQ
      clear t4 t5
      refine wp_region_held_drew (S := fun w' => w'.cell? ⟨w.heap.size, 5, none⟩ = some (.int .i64 ph) ∧ w'.cell? ⟨w.heap.size, 4, none⟩ = some (.slice da dl dc) ∧ w'.cell? ⟨b, 18, none⟩ = some (.int .i64 po) ∧ w'.cell? ⟨b, 17, none⟩ = some (.slice ea el ec)) (by kernel_rfl) ?_ (fun hHeld => ?_)
      · exact ⟨x45, x44, y45, y44⟩
      refine wpAnyH_take (i := 0) (v := ?_) rfl (by decide +kernel) (by decide +kernel) (by decide +kernel) (fun _ _ _ h => h) (Or.inl ⟨by rfl, ?_⟩) (by assumption) ?_
      rotate_left
      · intro w2 hSw
        (try dsimp only at hSw)
        (try (obtain ⟨hs1, hs2⟩ := hSw))
        go_simp
        (try (with_reducible rfl))
      (try simp only [Act.put, lga, lgz, lgs, lsa, lsz, lss])
      refine wpAnyH_take (i := 1) (v := ?_) rfl (by decide +kernel) (by decide +kernel) (by decide +kernel) (fun _ _ _ h => h) (Or.inl ⟨by rfl, ?_⟩) (by assumption) ?_
      rotate_left
      · intro w2 hSw
        (try dsimp only at hSw)
        (try (obtain ⟨hs1, hs2⟩ := hSw))
        go_simp
        (try (with_reducible rfl))
      (try simp only [Act.put, lga, lgz, lgs, lsa, lsz, lss])
      refine wpAnyH_take (i := 2) (v := ?_) rfl (by decide +kernel) (by decide +kernel) (by decide +kernel) (fun _ _ _ h => h) (Or.inl ⟨by rfl, ?_⟩) (by assumption) ?_
      rotate_left
      · intro w2 hSw
        (try dsimp only at hSw)
        (try (obtain ⟨hs1, hs2⟩ := hSw))
        go_simp
        (try (with_reducible rfl))
      (try simp only [Act.put, lga, lgz, lgs, lsa, lsz, lss])
      refine wpAnyH_take (i := 3) (v := ?_) rfl (by decide +kernel) (by decide +kernel) (by decide +kernel) (fun _ _ _ h => h) (Or.inl ⟨by rfl, ?_⟩) (by assumption) ?_
      rotate_left
      · intro w2 hSw
        (try dsimp only at hSw)
        (try (obtain ⟨hs1, hs2⟩ := hSw))
        go_simp
        (try (with_reducible rfl))
      (try simp only [Act.put, lga, lgz, lgs, lsa, lsz, lss])
      refine wpAnyH_take (i := 4) (v := ?_) rfl (by decide +kernel) (by decide +kernel) (by decide +kernel) (fun _ _ _ h => h) (Or.inl ⟨by rfl, ?_⟩) (by assumption) ?_
      rotate_left
      · intro w2 hSw
        (try dsimp only at hSw)
        (try (obtain ⟨hs1, hs2⟩ := hSw))
        go_simp
        (try (with_reducible rfl))
      (try simp only [Act.put, lga, lgz, lgs, lsa, lsz, lss])
      refine wpAnyH_take (i := 5) (v := ?_) rfl (by decide +kernel) (by decide +kernel) (by decide +kernel) (fun _ _ _ h => h) (Or.inl ⟨by rfl, ?_⟩) (by assumption) ?_
      rotate_left
      · intro w2 hSw
        (try dsimp only at hSw)
        (try (obtain ⟨hs1, hs2⟩ := hSw))
        go_simp
        (try (with_reducible rfl))
      (try simp only [Act.put, lga, lgz, lgs, lsa, lsz, lss])
      refine wpAnyH_take (i := 6) (v := ?_) rfl (by decide +kernel) (by decide +kernel) (by decide +kernel) (fun _ _ _ h => h) (Or.inl ⟨by rfl, ?_⟩) (by assumption) ?_
      rotate_left
      · intro w2 hSw
        (try dsimp only at hSw)
        (try (obtain ⟨hs1, hs2⟩ := hSw))
        go_simp
        (try (with_reducible rfl))
      (try simp only [Act.put, lga, lgz, lgs, lsa, lsz, lss])
      refine wpAnyH_take (i := 7) (v := ?_) rfl (by decide +kernel) (by decide +kernel) (by decide +kernel) (fun _ _ _ h => h) (Or.inl ⟨by rfl, ?_⟩) (by assumption) ?_
      rotate_left
      · intro w2 hSw
        (try dsimp only at hSw)
        (try (obtain ⟨hs1, hs2⟩ := hSw))
        go_simp
        (try (with_reducible rfl))
      (try simp only [Act.put, lga, lgz, lgs, lsa, lsz, lss])
      refine wpAnyH_take (i := 8) (v := ?_) rfl (by decide +kernel) (by decide +kernel) (by decide +kernel) (fun _ _ _ h => h) (Or.inl ⟨by rfl, ?_⟩) (by assumption) ?_
      rotate_left
      · intro w2 hSw
        (try dsimp only at hSw)
        (try (obtain ⟨hs1, hs2⟩ := hSw))
        go_simp
        (try (with_reducible rfl))
      (try simp only [Act.put, lga, lgz, lgs, lsa, lsz, lss])
      refine wpAnyH_take (i := 9) (v := ?_) rfl (by decide +kernel) (by decide +kernel) (by decide +kernel) (fun _ _ _ h => h) (Or.inl ⟨by rfl, ?_⟩) (by assumption) ?_
      rotate_left
      · intro w2 hSw
        (try dsimp only at hSw)
        (try (obtain ⟨hs1, hs2⟩ := hSw))
        go_simp
        (try (with_reducible rfl))
      (try simp only [Act.put, lga, lgz, lgs, lsa, lsz, lss])
      refine wpAnyH_take (i := 10) (v := ?_) rfl (by decide +kernel) (by decide +kernel) (by decide +kernel) (fun _ _ _ h => h) (Or.inl ⟨by rfl, ?_⟩) (by assumption) ?_
      rotate_left
      · intro w2 hSw
        (try dsimp only at hSw)
        (try (obtain ⟨hs1, hs2⟩ := hSw))
        go_simp
        (try (with_reducible rfl))
      (try simp only [Act.put, lga, lgz, lgs, lsa, lsz, lss])
      refine wpAnyH_take (i := 11) (v := ?_) rfl (by decide +kernel) (by decide +kernel) (by decide +kernel) (fun _ _ _ h => h) (Or.inl ⟨by rfl, ?_⟩) (by assumption) ?_
      rotate_left
      · intro w2 hSw
        (try dsimp only at hSw)
        (try (obtain ⟨hs1, hs2⟩ := hSw))
        go_simp
        (try (with_reducible rfl))
      (try simp only [Act.put, lga, lgz, lgs, lsa, lsz, lss])
      refine wpAnyH_take (i := 12) (v := ?_) rfl (by decide +kernel) (by decide +kernel) (by decide +kernel) (fun _ _ _ h => h) (Or.inl ⟨by rfl, ?_⟩) (by assumption) ?_
      rotate_left
      · intro w2 hSw
        (try dsimp only at hSw)
        (try (obtain ⟨hs1, hs2⟩ := hSw))
        go_simp
        (try (with_reducible rfl))
      (try simp only [Act.put, lga, lgz, lgs, lsa, lsz, lss])
      refine wpAnyH_take (i := 13) (v := ?_) rfl (by decide +kernel) (by decide +kernel) (by decide +kernel) (fun _ _ _ h => h) (Or.inl ⟨by rfl, ?_⟩) (by assumption) ?_
      rotate_left
      · intro w2 hSw
        (try dsimp only at hSw)
        (try (obtain ⟨hs1, hs2⟩ := hSw))
        go_simp
        (try (with_reducible rfl))
      (try simp only [Act.put, lga, lgz, lgs, lsa, lsz, lss])
      refine wpAnyH_take (i := 14) (v := ?_) rfl (by decide +kernel) (by decide +kernel) (by decide +kernel) (fun _ _ _ h => h) (Or.inl ⟨by rfl, ?_⟩) (by assumption) ?_
      rotate_left
      · intro w2 hSw
        (try dsimp only at hSw)
        (try (obtain ⟨hs1, hs2⟩ := hSw))
        go_simp
        (try (with_reducible rfl))
      (try simp only [Act.put, lga, lgz, lgs, lsa, lsz, lss])
      refine wpAnyH_take (i := 15) (v := ?_) rfl (by decide +kernel) (by decide +kernel) (by decide +kernel) (fun _ _ _ h => h) (Or.inl ⟨by rfl, ?_⟩) (by assumption) ?_
      rotate_left
      · intro w2 hSw
        (try dsimp only at hSw)
        (try (obtain ⟨hs1, hs2⟩ := hSw))
        go_simp
        (try (with_reducible rfl))
      (try simp only [Act.put, lga, lgz, lgs, lsa, lsz, lss])
      refine wpAnyH_take (i := 16) (v := ?_) rfl (by decide +kernel) (by decide +kernel) (by decide +kernel) (fun _ _ _ h => h) (Or.inl ⟨by rfl, ?_⟩) (by assumption) ?_
      rotate_left
      · intro w2 hSw
        (try dsimp only at hSw)
        (try (obtain ⟨hs1, hs2⟩ := hSw))
        go_simp
        (try (with_reducible rfl))
      (try simp only [Act.put, lga, lgz, lgs, lsa, lsz, lss])
      refine wpAnyH_take (i := 17) (v := ?_) rfl (by decide +kernel) (by decide +kernel) (by decide +kernel) (fun _ _ _ h => h) (Or.inl ⟨by rfl, ?_⟩) (by assumption) ?_
      rotate_left
      · intro w2 hSw
        (try dsimp only at hSw)
        (try (obtain ⟨hs1, hs2⟩ := hSw))
        go_simp
        (try (with_reducible rfl))
      (try simp only [Act.put, lga, lgz, lgs, lsa, lsz, lss])
      refine wpAnyH_ready (rs := [18]) (by decide +kernel) (by simp) ?_
      refine AllReadyH.cons rfl (fun K hK => ?_) (AllReadyH.nil)
      (try simp only [lga, lgz, lgs])
      (go_simp; go_at_call 79; ((with_reducible refine Calls.mono (HEQ.out _ ?_) ?_); (focus (exact (up_below HUP0.out HB4.out h0).call (by (repeat' (first | (with_reducible first | exact Up.refl _ | assumption | refine Up.alloc ?_ _ | refine Up.drew ?_ | refine Up.drewN ?_ _ | refine Up.setCell ?_ ?_ _ | refine Up.call ?_ (by assumption)) | go_size))))); rintro e w21 ⟨rfl, hu20⟩); (try dsimp only))
      refine hK.out _ _ ?_ (fun hHeld => ?_)
      · exact ⟨(hu20.cells.1 _ 5 (by simp; omega)).trans hHeld.1, (hu20.cells.1 _ 4 (by simp; omega)).trans hHeld.2.1, (hu20.cells.1 _ 18 (by simp; omega)).trans hHeld.2.2.1, (hu20.cells.1 _ 17 (by simp; omega)).trans hHeld.2.2.2⟩
      clear hK K
      (try simp only [Act.put, lga, lgz, lgs, lsa, lsz, lss])
      refine wpAnyH_take (i := 19) (v := ?_) rfl (by decide +kernel) (by decide +kernel) (by decide +kernel) (fun _ _ _ h => h) (Or.inl ⟨by rfl, ?_⟩) (by assumption) ?_
      rotate_left
      · intro w2 hSw
        (try dsimp only at hSw)
        (try (obtain ⟨hs1, hs2⟩ := hSw))
        go_simp
        (try (with_reducible rfl))
      (try simp only [Act.put, lga, lgz, lgs, lsa, lsz, lss])
      refine wpAnyH_take (i := 20) (v := ?_) rfl (by decide +kernel) (by decide +kernel) (by decide +kernel) (fun _ _ _ h => h) (Or.inl ⟨by rfl, ?_⟩) (by assumption) ?_
      rotate_left
      · intro w2 hSw
        (try dsimp only at hSw)
        (try (obtain ⟨hs1, hs2⟩ := hSw))
        go_simp
        (try (with_reducible rfl))
      (try simp only [Act.put, lga, lgz, lgs, lsa, lsz, lss])
      refine wpAnyH_done (by decide +kernel) ?_ _
      clear hHeld
      have HU21 := Lib.hid (show Up w4 w21 by (repeat' (first | (with_reducible first | exact Up.refl _ | assumption | refine Up.alloc ?_ _ | refine Up.drew ?_ | refine Up.drewN ?_ _ | refine Up.setCell ?_ ?_ _ | refine Up.call ?_ (by assumption)) | go_size)))
      have HI21 := Lib.hid (HI4.out.old HU21.out)
      have HB21 := Lib.hid (HB4.out.trans (HU21.out.mono (by omega)))
      have HO21 := Lib.hid (HO4.out.upc HU21.out)
      have HX21 := Lib.hid (HX4.out.up HU21.out)
      clear x40 y40 f4_0 x41 y41 f4_1 x42 y42 f4_2 x43 y43 f4_3 x44 y44 f4_4 x45 y45 f4_5 lx4 lb4
      have x210 := HX21.out.cell 0 rfl; have x211 := HX21.out.cell 1 rfl; have x212 := HX21.out.cell 2 rfl; have x213 := HX21.out.cell 3 rfl; have x214 := HX21.out.cell 4 rfl; have x215 := HX21.out.cell 5 rfl; have y210 := HI21.out.cell 10 (v := .int .i64 wo) rfl; have y211 := HI21.out.cell 11 (v := .int .i64 co) rfl; have y212 := HI21.out.cell 12 (v := .int .i64 jo) rfl; have y213 := HI21.out.cell 13 (v := .int .i64 mo) rfl; have y214 := HI21.out.cell 14 (v := .slice ea el ec) rfl; have y215 := HI21.out.cell 15 (v := .int .i64 po) rfl; have f21_0 := HI21.out.free 13; have f21_1 := HI21.out.free 14; have f21_2 := HI21.out.free 15; have f21_3 := HI21.out.free 16; have f21_4 := HI21.out.free 17; have f21_5 := HI21.out.free 18; have lx21 := HX21.out.lt; have lb21 := LibA.IsBuffer.lt HI21.out; have zz21 := HB21.out.size
      go_wp2_with (go_at_call 80; ((refine (dash_calls _ B b (bs ++ (if wd = wo then [] else lineB [119] [wd]) ++ (if cap = co then [] else digB cap [74]) ++ (if jn = jo then [] else digB jn [106]) ++ (if mt = mo then [] else lineB [77] [mt])) wd cap jn mt ph da dl dc ds w0 _ HD.out HDL.out hdl HDF.out ⟨p1, p2⟩ h0 (by exact (up_below HUP0.out HB21.out h0).call (by (repeat' (first | (with_reducible first | exact Up.refl _ | assumption | refine Up.alloc ?_ _ | refine Up.drew ?_ | refine Up.drewN ?_ _ | refine Up.setCell ?_ ?_ _ | refine Up.call ?_ (by assumption)) | go_size)))) (HI21.out.old (by (repeat' (first | (with_reducible first | exact Up.refl _ | assumption | refine Up.alloc ?_ _ | refine Up.drew ?_ | refine Up.drewN ?_ _ | refine Up.setCell ?_ ?_ _ | refine Up.call ?_ (by assumption)) | go_size)))) (by first | (simp; omega) | omega) (by have h1 := HLIM.out; have l0 := PL0.out; have l1 := PL1.out; have l2 := PL2.out; have l3 := PL3.out; (try simp only [List.length_append, List.length_cons, List.length_nil]); omega)).mono ?_); rintro e w5 ⟨rfl, hI, hb2, ho2⟩; have HI5 := Lib.hid hI; have HB5 := Lib.hid (HB21.out.trans (Below.trans ((show Up w21 _ by (repeat' (first | (with_reducible first | exact Up.refl _ | assumption | refine Up.alloc ?_ _ | refine Up.drew ?_ | refine Up.drewN ?_ _ | refine Up.setCell ?_ ?_ _ | refine Up.call ?_ (by assumption)) | go_size))).mono (by omega)) hb2)); have HO5 := Lib.hid (HO21.out.tr (((OK.refl b w21).upc (show Up w21 _ by (repeat' (first | (with_reducible first | exact Up.refl _ | assumption | refine Up.alloc ?_ _ | refine Up.drew ?_ | refine Up.drewN ?_ _ | refine Up.setCell ?_ ?_ _ | refine Up.call ?_ (by assumption)) | go_size)))).tr ho2)); have HX5 := Lib.hid ((HX21.out.up (show Up w21 _ by (repeat' (first | (with_reducible first | exact Up.refl _ | assumption | refine Up.alloc ?_ _ | refine Up.drew ?_ | refine Up.drewN ?_ _ | refine Up.setCell ?_ ?_ _ | refine Up.call ?_ (by assumption)) | go_size)))).kept ho2 (by omega)); clear hI hb2 ho2; clear x210 y210 f21_0 x211 y211 f21_1 x212 y212 f21_2 x213 y213 f21_3 x214 y214 f21_4 x215 y215 f21_5 lx21 lb21; have x50 := HX5.out.cell 0 rfl; have x51 := HX5.out.cell 1 rfl; have x52 := HX5.out.cell 2 rfl; have x53 := HX5.out.cell 3 rfl; have x54 := HX5.out.cell 4 rfl; have x55 := HX5.out.cell 5 rfl; have y50 := HI5.out.cell 10 (v := .int .i64 wo) rfl; have y51 := HI5.out.cell 11 (v := .int .i64 co) rfl; have y52 := HI5.out.cell 12 (v := .int .i64 jo) rfl; have y53 := HI5.out.cell 13 (v := .int .i64 mo) rfl; have y54 := HI5.out.cell 14 (v := .slice ea el ec) rfl; have y55 := HI5.out.cell 15 (v := .int .i64 po) rfl; have f5_0 := HI5.out.free 13; have f5_1 := HI5.out.free 14; have f5_2 := HI5.out.free 15; have f5_3 := HI5.out.free 16; have f5_4 := HI5.out.free 17; have f5_5 := HI5.out.free 18; have lx5 := HX5.out.lt; have lb5 := LibA.IsBuffer.lt HI5.out; have zz5 := HB5.out.size))
      go_returns
      refine ⟨rfl, ?_, (Below.setCell (Below.setCell (Below.setCell (Below.setCell (Below.setCell (Below.setCell (HB5.out.trans ((show Up w5 _ by (repeat' (first | (with_reducible first | exact Up.refl _ | assumption | refine Up.alloc ?_ _ | refine Up.drew ?_ | refine Up.drewN ?_ _ | refine Up.setCell ?_ ?_ _ | refine Up.call ?_ (by assumption)) | go_size))).mono (by omega))) (p := ⟨b, 13, none⟩) hBb _) (p := ⟨b, 14, none⟩) hBb _) (p := ⟨b, 15, none⟩) hBb _) (p := ⟨b, 16, none⟩) hBb _) (p := ⟨b, 17, none⟩) hBb _) (p := ⟨b, 18, none⟩) hBb _), (OK.setB (OK.setB (OK.setB (OK.setB (OK.setB (OK.setB (HO5.out.upc (show Up w5 _ by (repeat' (first | (with_reducible first | exact Up.refl _ | assumption | refine Up.alloc ?_ _ | refine Up.drew ?_ | refine Up.drewN ?_ _ | refine Up.setCell ?_ ?_ _ | refine Up.call ?_ (by assumption)) | go_size)))) 13 _) 14 _) 15 _) 16 _) 17 _) 18 _)⟩
      have e9 : bs ++ penB ⟨wo, co, jo, mo, eds, po⟩ ⟨wd, cap, jn, mt, ds, ph⟩ = bs ++ (if wd = wo then [] else lineB [119] [wd]) ++ (if cap = co then [] else digB cap [74]) ++ (if jn = jo then [] else digB jn [106]) ++ (if mt = mo then [] else lineB [77] [mt]) ++ dashB ⟨wd, cap, jn, mt, ds, ph⟩ := by simp only [penB]; rw [if_neg T4.out]; simp only [List.append_assoc, List.append_nil]
      rw [e9]; exact (((((((HI5.out.old (by (repeat' (first | (with_reducible first | exact Up.refl _ | assumption | refine Up.alloc ?_ _ | refine Up.drew ?_ | refine Up.drewN ?_ _ | refine Up.setCell ?_ ?_ _ | refine Up.call ?_ (by assumption)) | go_size)))).set 10 (by simp [Wm.rest, Sm.cells]) (.int .i64 wd)).set 11 (by simp [Wm.rest, Sm.cells]) (.int .i64 cap)).set 12 (by simp [Wm.rest, Sm.cells]) (.int .i64 jn)).set 13 (by simp [Wm.rest, Sm.cells]) (.int .i64 mt)).set 14 (by simp [Wm.rest, Sm.cells]) (.slice da dl dc)).set 15 (by simp [Wm.rest, Sm.cells]) (.int .i64 ph))
  · have d4 : ((ph : Int) != po) = true := by simp [t4]
    have T4 := Lib.hid (show ¬ (ph = po ∧ ds = eds) from fun h => t4 h.1)
    clear t4
    go_region
    go_wp2_with (go_at_call 80; ((refine (dash_calls _ B b (bs ++ (if wd = wo then [] else lineB [119] [wd]) ++ (if cap = co then [] else digB cap [74]) ++ (if jn = jo then [] else digB jn [106]) ++ (if mt = mo then [] else lineB [77] [mt])) wd cap jn mt ph da dl dc ds w0 _ HD.out HDL.out hdl HDF.out ⟨p1, p2⟩ h0 (by exact (up_below HUP0.out HB4.out h0).call (by (repeat' (first | (with_reducible first | exact Up.refl _ | assumption | refine Up.alloc ?_ _ | refine Up.drew ?_ | refine Up.drewN ?_ _ | refine Up.setCell ?_ ?_ _ | refine Up.call ?_ (by assumption)) | go_size)))) (HI4.out.old (by (repeat' (first | (with_reducible first | exact Up.refl _ | assumption | refine Up.alloc ?_ _ | refine Up.drew ?_ | refine Up.drewN ?_ _ | refine Up.setCell ?_ ?_ _ | refine Up.call ?_ (by assumption)) | go_size)))) (by first | (simp; omega) | omega) (by have h1 := HLIM.out; have l0 := PL0.out; have l1 := PL1.out; have l2 := PL2.out; have l3 := PL3.out; (try simp only [List.length_append, List.length_cons, List.length_nil]); omega)).mono ?_); rintro e w5 ⟨rfl, hI, hb2, ho2⟩; have HI5 := Lib.hid hI; have HB5 := Lib.hid (HB4.out.trans (Below.trans ((show Up w4 _ by (repeat' (first | (with_reducible first | exact Up.refl _ | assumption | refine Up.alloc ?_ _ | refine Up.drew ?_ | refine Up.drewN ?_ _ | refine Up.setCell ?_ ?_ _ | refine Up.call ?_ (by assumption)) | go_size))).mono (by omega)) hb2)); have HO5 := Lib.hid (HO4.out.tr (((OK.refl b w4).upc (show Up w4 _ by (repeat' (first | (with_reducible first | exact Up.refl _ | assumption | refine Up.alloc ?_ _ | refine Up.drew ?_ | refine Up.drewN ?_ _ | refine Up.setCell ?_ ?_ _ | refine Up.call ?_ (by assumption)) | go_size)))).tr ho2)); have HX5 := Lib.hid ((HX4.out.up (show Up w4 _ by (repeat' (first | (with_reducible first | exact Up.refl _ | assumption | refine Up.alloc ?_ _ | refine Up.drew ?_ | refine Up.drewN ?_ _ | refine Up.setCell ?_ ?_ _ | refine Up.call ?_ (by assumption)) | go_size)))).kept ho2 (by omega)); clear hI hb2 ho2; clear x40 y40 f4_0 x41 y41 f4_1 x42 y42 f4_2 x43 y43 f4_3 x44 y44 f4_4 x45 y45 f4_5 lx4 lb4; have x50 := HX5.out.cell 0 rfl; have x51 := HX5.out.cell 1 rfl; have x52 := HX5.out.cell 2 rfl; have x53 := HX5.out.cell 3 rfl; have x54 := HX5.out.cell 4 rfl; have x55 := HX5.out.cell 5 rfl; have y50 := HI5.out.cell 10 (v := .int .i64 wo) rfl; have y51 := HI5.out.cell 11 (v := .int .i64 co) rfl; have y52 := HI5.out.cell 12 (v := .int .i64 jo) rfl; have y53 := HI5.out.cell 13 (v := .int .i64 mo) rfl; have y54 := HI5.out.cell 14 (v := .slice ea el ec) rfl; have y55 := HI5.out.cell 15 (v := .int .i64 po) rfl; have f5_0 := HI5.out.free 13; have f5_1 := HI5.out.free 14; have f5_2 := HI5.out.free 15; have f5_3 := HI5.out.free 16; have f5_4 := HI5.out.free 17; have f5_5 := HI5.out.free 18; have lx5 := HX5.out.lt; have lb5 := LibA.IsBuffer.lt HI5.out; have zz5 := HB5.out.size))
    go_returns
    refine ⟨rfl, ?_, (Below.setCell (Below.setCell (Below.setCell (Below.setCell (Below.setCell (Below.setCell (HB5.out.trans ((show Up w5 _ by (repeat' (first | (with_reducible first | exact Up.refl _ | assumption | refine Up.alloc ?_ _ | refine Up.drew ?_ | refine Up.drewN ?_ _ | refine Up.setCell ?_ ?_ _ | refine Up.call ?_ (by assumption)) | go_size))).mono (by omega))) (p := ⟨b, 13, none⟩) hBb _) (p := ⟨b, 14, none⟩) hBb _) (p := ⟨b, 15, none⟩) hBb _) (p := ⟨b, 16, none⟩) hBb _) (p := ⟨b, 17, none⟩) hBb _) (p := ⟨b, 18, none⟩) hBb _), (OK.setB (OK.setB (OK.setB (OK.setB (OK.setB (OK.setB (HO5.out.upc (show Up w5 _ by (repeat' (first | (with_reducible first | exact Up.refl _ | assumption | refine Up.alloc ?_ _ | refine Up.drew ?_ | refine Up.drewN ?_ _ | refine Up.setCell ?_ ?_ _ | refine Up.call ?_ (by assumption)) | go_size)))) 13 _) 14 _) 15 _) 16 _) 17 _) 18 _)⟩
    have e9 : bs ++ penB ⟨wo, co, jo, mo, eds, po⟩ ⟨wd, cap, jn, mt, ds, ph⟩ = bs ++ (if wd = wo then [] else lineB [119] [wd]) ++ (if cap = co then [] else digB cap [74]) ++ (if jn = jo then [] else digB jn [106]) ++ (if mt = mo then [] else lineB [77] [mt]) ++ dashB ⟨wd, cap, jn, mt, ds, ph⟩ := by simp only [penB]; rw [if_neg T4.out]; simp only [List.append_assoc, List.append_nil]
    rw [e9]; exact (((((((HI5.out.old (by (repeat' (first | (with_reducible first | exact Up.refl _ | assumption | refine Up.alloc ?_ _ | refine Up.drew ?_ | refine Up.drewN ?_ _ | refine Up.setCell ?_ ?_ _ | refine Up.call ?_ (by assumption)) | go_size)))).set 10 (by simp [Wm.rest, Sm.cells]) (.int .i64 wd)).set 11 (by simp [Wm.rest, Sm.cells]) (.int .i64 cap)).set 12 (by simp [Wm.rest, Sm.cells]) (.int .i64 jn)).set 13 (by simp [Wm.rest, Sm.cells]) (.int .i64 mt)).set 14 (by simp [Wm.rest, Sm.cells]) (.slice da dl dc)).set 15 (by simp [Wm.rest, Sm.cells]) (.int .i64 ph))

end Go.Proofs.YtpellcdggaeppaaGreatDoor.Dr
end

section
namespace Go.Proofs.YtpellcdggaeppaaGreatDoor.Dr
open List renaming getElem_toArray → lga, getElem_cons_zero → lgz, getElem_cons_succ → lgs, setIfInBounds_toArray → lsa, set_cons_zero → lsz, set_cons_succ → lss
open Go.ChangeShapes Go.WideShapes Go.ChangeAt Go.RowKit Go.Shelf
open Go.Proofs.YtpellcdggaeppaaGreatDoor.Path Go.Proofs.YtpellcdggaeppaaGreatDoor.PathM
set_option linter.unusedVariables false
set_option linter.unusedSimpArgs false

set_option maxHeartbeats 2000000 in
theorem eqSegs_calls (v1 v2 : Value) (l m : List Seg) (w : World) (h : SegV w v1 l) (h' : SegV w v2 m) :
    Calls Tryz.prog 117 #[v1, v2] w fun e w' => e = .returned (.bool (decide (l = m))) ∧ Up w w' := by
  by_cases hlen : l.length = m.length
  · rcases h with ⟨a, cap, rfl, rfl⟩ | ⟨b, o, cap, rfl, h0, hb, hs, hl⟩
    · obtain rfl : m = [] := List.eq_nil_of_length_eq_zero hlen.symm
      rcases h' with ⟨a', cap', rfl, -⟩ | ⟨b', o', cap', rfl, h0', hb', hs', hl'⟩
      · go_enter Tryz.func117, Tryz.ntmps117
        go_wp2
        refine wp_loop_rounds 1 ?_
        repeat any_goals (rw [rounds_succ]; go_wp2)
        go_ret
        exact ⟨rfl, by (repeat' (first | (with_reducible first | exact Up.refl _ | assumption | refine Up.alloc ?_ _ | refine Up.drew ?_ | refine Up.drewN ?_ _ | refine Up.setCell ?_ ?_ _ | refine Up.call ?_ (by assumption)) | go_size))⟩
      · exact absurd h0' (by simp)
    · rcases h' with ⟨a', cap', rfl, rfl⟩ | ⟨b', o', cap', rfl, h0', hb', hs', hl'⟩
      · simp at hlen; subst hlen; simp at h0
      · have HS := Lib.hid hs
        have HS' := Lib.hid hs'
        rw [← hlen]
        have HL := Lib.hid hlen
        clear hs hs' hlen
        go_enter Tryz.func117, Tryz.ntmps117
        go_wp2
        go_loopw [13] (fun i wr => ∃ k : Nat, k ≤ l.length ∧ i = .int .i64 k ∧ l.take k = m.take k ∧ Up w wr) (fun i _ => l.length - (intOf i).toNat)
        case atStart => exact ⟨0, Nat.zero_le _, rfl, rfl, Up.refl _⟩
        case round =>
          obtain ⟨k, hk, rfl, hno, hup⟩ := hrel
          have HN := Lib.hid hno
          clear hno
          by_cases hlt : k < l.length
          · obtain ⟨kk, x0, y0, x1, y1, x2, y2, hg⟩ : ∃ kk x0 y0 x1 y1 x2 y2, l[k]? = some ⟨kk, (x0, y0), (x1, y1), (x2, y2)⟩ := ⟨_, _, _, _, _, _, _, List.getElem?_eq_getElem hlt⟩
            obtain ⟨kk', x0', y0', x1', y1', x2', y2', hg'⟩ : ∃ kk x0 y0 x1 y1 x2 y2, m[k]? = some ⟨kk, (x0, y0), (x1, y1), (x2, y2)⟩ := ⟨_, _, _, _, _, _, _, List.getElem?_eq_getElem (by have := HL.out; omega)⟩
            obtain ⟨c0, c1, c2, c3, c4, c5, c6⟩ := HS.out.seven k _ _ _ _ _ _ _ hg
            replace c0 := (hup.cells.1 b _ hb).trans c0
            replace c1 := (hup.cells.1 b _ hb).trans c1
            replace c2 := (hup.cells.1 b _ hb).trans c2
            replace c3 := (hup.cells.1 b _ hb).trans c3
            replace c4 := (hup.cells.1 b _ hb).trans c4
            replace c5 := (hup.cells.1 b _ hb).trans c5
            replace c6 := (hup.cells.1 b _ hb).trans c6
            obtain ⟨d0, d1, d2, d3, d4, d5, d6⟩ := HS'.out.seven k _ _ _ _ _ _ _ hg'
            replace d0 := (hup.cells.1 b' _ hb').trans d0
            replace d1 := (hup.cells.1 b' _ hb').trans d1
            replace d2 := (hup.cells.1 b' _ hb').trans d2
            replace d3 := (hup.cells.1 b' _ hb').trans d3
            replace d4 := (hup.cells.1 b' _ hb').trans d4
            replace d5 := (hup.cells.1 b' _ hb').trans d5
            replace d6 := (hup.cells.1 b' _ hb').trans d6
            have hz := hup.size
            obtain ⟨t, ht⟩ : ∃ t, decide ((⟨kk, (x0, y0), (x1, y1), (x2, y2)⟩ : Seg) = ⟨kk', (x0', y0'), (x1', y1'), (x2', y2')⟩) = t := ⟨_, rfl⟩
            have hq := run_eqSeg kk x0 y0 x1 y1 x2 y2 kk' x0' y0' x1' y1' x2' y2'
            rw [ht] at hq
            cases t
            · have HQ := Lib.hid (show decide (l = m) = false by
                rw [decide_eq_false_iff_not]
                rintro rfl
                rw [hg] at hg'
                rw [decide_eq_false_iff_not] at ht
                exact ht (Option.some.inj hg'))
              clear hg hg' ht
              go_wp2
              go_region
              go_wp2
              all_goals go_ret
              all_goals exact ⟨by rw [HQ.out]; rfl, by (repeat' (first | (with_reducible first | exact Up.refl _ | assumption | refine Up.alloc ?_ _ | refine Up.drew ?_ | refine Up.drewN ?_ _ | refine Up.setCell ?_ ?_ _ | refine Up.call ?_ (by assumption)) | go_size))⟩
            · have HQ := Lib.hid (show l.take (k + 1) = m.take (k + 1) from take_eq_step HN.out hg (by rw [hg', ← of_decide_eq_true ht]))
              clear hg hg' ht
              go_wp2
              go_region
              go_wp2
              all_goals go_roundw
              case rel => exact ⟨k + 1, by omega, by go_num, HQ.out, by (repeat' (first | (with_reducible first | exact Up.refl _ | assumption | refine Up.alloc ?_ _ | refine Up.drew ?_ | refine Up.drewN ?_ _ | refine Up.setCell ?_ ?_ _ | refine Up.call ?_ (by assumption)) | go_size))⟩
              case measure => simp [intOf]; omega
          · have HQ := Lib.hid (show decide (l = m) = true by
              have := HN.out
              have hl2 := HL.out
              rw [List.take_of_length_le (by omega), List.take_of_length_le (by omega)] at this
              exact decide_eq_true this)
            go_wp2
            go_ret
            exact ⟨by rw [HQ.out]; rfl, by (repeat' (first | (with_reducible first | exact Up.refl _ | assumption | refine Up.alloc ?_ _ | refine Up.drew ?_ | refine Up.drewN ?_ _ | refine Up.setCell ?_ ?_ _ | refine Up.call ?_ (by assumption)) | go_size))⟩
  · have HQ := Lib.hid (show decide (l = m) = false by
      rw [decide_eq_false_iff_not]
      rintro rfl
      exact hlen rfl)
    have dl : ((l.length : Int) != (m.length : Int)) = true := by
      rw [bne_iff_ne]
      intro e
      exact hlen (by omega)
    clear hlen
    obtain ⟨a, cap, rfl⟩ : ∃ a cap, v1 = .slice a l.length cap := by
      rcases h with ⟨a, cap, rfl, rfl⟩ | ⟨b, o, cap, rfl, _⟩
      · exact ⟨a, cap, rfl⟩
      · exact ⟨_, cap, rfl⟩
    obtain ⟨a', cap', rfl⟩ : ∃ a cap, v2 = .slice a m.length cap := by
      rcases h' with ⟨a, cap, rfl, rfl⟩ | ⟨b, o, cap, rfl, _⟩
      · exact ⟨a, cap, rfl⟩
      · exact ⟨_, cap, rfl⟩
    clear h h'
    go_enter Tryz.func117, Tryz.ntmps117
    go_wp2
    go_ret
    exact ⟨by rw [HQ.out]; rfl, by (repeat' (first | (with_reducible first | exact Up.refl _ | assumption | refine Up.alloc ?_ _ | refine Up.drew ?_ | refine Up.drewN ?_ _ | refine Up.setCell ?_ ?_ _ | refine Up.call ?_ (by assumption)) | go_size))⟩


set_option maxRecDepth 8000 in
set_option maxHeartbeats 2000000 in
theorem sameClip_calls (pa : Option Addr) (pl pc : Nat) (l : List Seg) (e1 : Bool) (qa : Option Addr) (ql qc : Nat) (m : List Seg) (e2 : Bool) (w : World) (h : SegV w (.slice pa pl pc) l) (h' : SegV w (.slice qa ql qc) m) :
    Calls Tryz.prog 76 #[.agg #[.slice pa pl pc, .bool e1], .agg #[.slice qa ql qc, .bool e2]] w fun e w' => e = .returned (.bool (decide ((l, e1) = (m, e2)))) ∧ Up w w' := by
  have HE := Lib.hid (fun (W : World) (hW : Up w W) => eqSegs_calls (.slice pa pl pc) (.slice qa ql qc) l m W (h.up hW) (h'.up hW))
  clear h h'
  by_cases he : e1 = e2
  · subst he
    have HQ := Lib.hid (show decide ((l, e1) = (m, e1)) = decide (l = m) by simp)
    have t1 : (e1 == e1) = true := by simp
    go_enter Tryz.func76, Tryz.ntmps76
    go_wp2_with (go_at_call 117; ((with_reducible refine Calls.mono (HE.out _ ?_) ?_); (focus ((repeat' (first | (with_reducible first | exact Up.refl _ | assumption | refine Up.alloc ?_ _ | refine Up.drew ?_ | refine Up.drewN ?_ _ | refine Up.setCell ?_ ?_ _ | refine Up.call ?_ (by assumption)) | go_size)))); rintro e w1 ⟨rfl, hu1⟩))
    all_goals go_ret
    all_goals exact ⟨by rw [HQ.out]; rfl, by (repeat' (first | (with_reducible first | exact Up.refl _ | assumption | refine Up.alloc ?_ _ | refine Up.drew ?_ | refine Up.drewN ?_ _ | refine Up.setCell ?_ ?_ _ | refine Up.call ?_ (by assumption)) | go_size))⟩
  · have HQ := Lib.hid (show decide ((l, e1) = (m, e2)) = false by simp [he])
    have t1 : (e1 == e2) = false := by simpa using he
    clear he
    go_enter Tryz.func76, Tryz.ntmps76
    go_wp2
    all_goals go_ret
    all_goals exact ⟨by rw [HQ.out]; rfl, by (repeat' (first | (with_reducible first | exact Up.refl _ | assumption | refine Up.alloc ?_ _ | refine Up.drew ?_ | refine Up.drewN ?_ _ | refine Up.setCell ?_ ?_ _ | refine Up.call ?_ (by assumption)) | go_size))⟩

/-- what a clip says -/
abbrev cld (c : Pt.Clip) : ClD := (c.l, c.eo)
theorem take_map_step {l m : List Pt.Clip} {k : Nat} {s t : Pt.Clip} (h : (l.map cld).take k = (m.map cld).take k) (h1 : l[k]? = some s) (h2 : m[k]? = some t) (e : cld s = cld t) : (l.map cld).take (k + 1) = (m.map cld).take (k + 1) := by
  rw [List.take_add_one, List.take_add_one, h, List.getElem?_map, List.getElem?_map, h1, h2]
  simp only [Option.map_some, e]

/-- clips that lie where a slice leads -/
def ClS (w : World) (a : Option Addr) (n : Nat) (xs : List Pt.Clip) : Prop := xs.length = n ∧ (0 < n → ∃ b o, a = some ⟨b, o, none⟩ ∧ b < w.heap.size ∧ ∀ (i : Nat) (s : Pt.Clip) (j : Nat) (u : Value), xs[i]? = some s → s.cells[j]? = some u → w.cell? ⟨b, o + i * 2 + j, none⟩ = some u) ∧ ∀ c ∈ xs, SegV w c.v c.l
theorem ClS.of {w : World} {a : Option Addr} {n c : Nat} {xs : List Pt.Clip} (h : Pt.ClipV w (.slice a n c) xs) : ClS w a n xs ∧ n ≤ c ∧ (a = none → n = 0 ∧ c = 0) := by
  obtain ⟨b1, n1, c1, hv, ⟨h1, h2, h3, h4, h5⟩, h6⟩ := h
  injection hv with e1 e2 e3
  subst e1 e2 e3
  exact ⟨⟨h3, h5, h6⟩, h1, h4⟩

set_option maxRecDepth 8000 in
set_option maxHeartbeats 4000000 in
/-- two lists of clips compared -/
theorem eqClips_calls (w0 : World) (a1 : Option Addr) (n c : Nat) (xs : List Pt.Clip) (a2 : Option Addr) (m d : Nat) (ys : List Pt.Clip) (hx : ClS w0 a1 n xs) (hy : ClS w0 a2 m ys) (hl : n ≤ 100000) (w : World) (hu : Up w0 w) :
    Calls Tryz.prog 75 #[.slice a1 n c, .slice a2 m d, .func (.func 76) #[] #[]] w fun e w' => e = .returned (.bool (decide (xs.map cld = ys.map cld))) ∧ Up w w' := by
  obtain ⟨h3, h5, h6⟩ := hx
  obtain ⟨k3, k5, k6⟩ := hy
  by_cases hn : n = m
  · subst hn
    have HX := Lib.hid h3
    have HY := Lib.hid k3
    have H5 := Lib.hid h5
    have K5 := Lib.hid k5
    have H6 := Lib.hid h6
    have K6 := Lib.hid k6
    have HU := Lib.hid hu
    clear h3 k3 h5 k5 h6 k6 hu
    go_enter Tryz.func75, Tryz.ntmps75
    go_wp2
    go_loopw [17] (fun i wr => ∃ k : Nat, k ≤ n ∧ i = .int .i64 k ∧ Hid ((xs.map cld).take k = (ys.map cld).take k) ∧ Up w wr) (fun i _ => n - (intOf i).toNat)
    case atStart => exact ⟨0, Nat.zero_le _, rfl, Lib.hid rfl, Up.refl _⟩
    case round =>
      obtain ⟨k, hk, rfl, HNO, hup⟩ := hrel
      have hzr := hup.size
      have HUR := Lib.hid (HU.out.call hup)
      by_cases hlt : k < n
      · obtain ⟨x, hx⟩ : ∃ x, xs[k]? = some x := ⟨_, List.getElem?_eq_getElem (by have := HX.out; omega)⟩
        obtain ⟨y, hy⟩ : ∃ y, ys[k]? = some y := ⟨_, List.getElem?_eq_getElem (by have := HY.out; omega)⟩
        obtain ⟨g, o, rfl, hg, hc⟩ := H5.out (by omega)
        obtain ⟨g', o', rfl, hg', hc'⟩ := K5.out (by omega)
        have sx := H6.out x (List.mem_of_getElem? hx)
        have sy := K6.out y (List.mem_of_getElem? hy)
        obtain ⟨vx, lx, ex⟩ := x
        obtain ⟨vy, ly, ey⟩ := y
        obtain ⟨pa, pl, pc, rfl⟩ : ∃ a l c, vx = .slice a l c := by
          rcases sx with ⟨a, cap, e, _⟩ | ⟨b, o, cap, e, _⟩ <;> exact ⟨_, _, _, e⟩
        obtain ⟨qa, ql, qc, rfl⟩ : ∃ a l c, vy = .slice a l c := by
          rcases sy with ⟨a, cap, e, _⟩ | ⟨b, o, cap, e, _⟩ <;> exact ⟨_, _, _, e⟩
        have c0 : wr.cell? ⟨g, o + k * 2, none⟩ = some (.slice pa pl pc) := (HUR.out.cells.1 g _ hg).trans (hc k _ 0 _ hx rfl)
        have c1 : wr.cell? ⟨g, o + k * 2 + 1, none⟩ = some (.bool ex) := (HUR.out.cells.1 g _ hg).trans (hc k _ 1 _ hx rfl)
        have d0 : wr.cell? ⟨g', o' + k * 2, none⟩ = some (.slice qa ql qc) := (HUR.out.cells.1 g' _ hg').trans (hc' k _ 0 _ hy rfl)
        have d1 : wr.cell? ⟨g', o' + k * 2 + 1, none⟩ = some (.bool ey) := (HUR.out.cells.1 g' _ hg').trans (hc' k _ 1 _ hy rfl)
        have lg : g < wr.heap.size := Nat.lt_of_lt_of_le hg HUR.out.size
        have lg' : g' < wr.heap.size := Nat.lt_of_lt_of_le hg' HUR.out.size
        have lga : g < wr.heap.size + 1 := by omega
        have lga' : g' < wr.heap.size + 1 := by omega
        have HS := Lib.hid (fun (W : World) (hW : Up wr W) => sameClip_calls pa pl pc lx ex qa ql qc ly ey W (sx.up (HUR.out.call hW)) (sy.up (HUR.out.call hW)))
        obtain ⟨t, ht⟩ : ∃ t, decide ((lx, ex) = (ly, ey)) = t := ⟨_, rfl⟩
        rw [ht] at HS
        have HXK := Lib.hid hx
        have HYK := Lib.hid hy
        have HT := Lib.hid ht
        clear hx hy ht sx sy hc hc'
        cases t
        · have HQ := Lib.hid (show decide (xs.map cld = ys.map cld) = false by
            rw [decide_eq_false_iff_not]
            intro e
            have h7 := congrArg (fun z => z[k]?) e
            simp only [List.getElem?_map, HXK.out, HYK.out, Option.map_some] at h7
            exact (decide_eq_false_iff_not.1 HT.out) (Option.some.inj h7))
          go_wp2_with (go_at_call 76; ((with_reducible refine Calls.mono (HS.out _ ?_) ?_); (focus ((repeat' (first | (with_reducible first | exact Up.refl _ | assumption | refine Up.alloc ?_ _ | refine Up.drew ?_ | refine Up.drewN ?_ _ | refine Up.setCell ?_ ?_ _ | refine Up.call ?_ (by assumption)) | go_size)))); rintro e w1 ⟨rfl, hu1⟩))
          go_ret
          exact ⟨by rw [HQ.out]; rfl, by (repeat' (first | (with_reducible first | exact Up.refl _ | assumption | refine Up.alloc ?_ _ | refine Up.drew ?_ | refine Up.drewN ?_ _ | refine Up.setCell ?_ ?_ _ | refine Up.call ?_ (by assumption)) | go_size))⟩
        · have HQ := Lib.hid (take_map_step HNO.out HXK.out HYK.out (of_decide_eq_true HT.out))
          go_wp2_with (go_at_call 76; ((with_reducible refine Calls.mono (HS.out _ ?_) ?_); (focus ((repeat' (first | (with_reducible first | exact Up.refl _ | assumption | refine Up.alloc ?_ _ | refine Up.drew ?_ | refine Up.drewN ?_ _ | refine Up.setCell ?_ ?_ _ | refine Up.call ?_ (by assumption)) | go_size)))); rintro e w1 ⟨rfl, hu1⟩))
          go_roundw
          case rel => exact ⟨k + 1, by omega, by go_num, HQ, by (repeat' (first | (with_reducible first | exact Up.refl _ | assumption | refine Up.alloc ?_ _ | refine Up.drew ?_ | refine Up.drewN ?_ _ | refine Up.setCell ?_ ?_ _ | refine Up.call ?_ (by assumption)) | go_size))⟩
          case measure => simp [intOf]; omega
      · have HQ := Lib.hid (show decide (xs.map cld = ys.map cld) = true by
          have h7 := HNO.out
          rw [List.take_of_length_le (by rw [List.length_map]; have := HX.out; omega), List.take_of_length_le (by rw [List.length_map]; have := HY.out; omega)] at h7
          exact decide_eq_true h7)
        go_wp2
        go_ret
        exact ⟨by rw [HQ.out]; rfl, by (repeat' (first | (with_reducible first | exact Up.refl _ | assumption | refine Up.alloc ?_ _ | refine Up.drew ?_ | refine Up.drewN ?_ _ | refine Up.setCell ?_ ?_ _ | refine Up.call ?_ (by assumption)) | go_size))⟩
  · have HQ := Lib.hid (show decide (xs.map cld = ys.map cld) = false by
      rw [decide_eq_false_iff_not]
      intro e
      have h7 := congrArg List.length e
      simp only [List.length_map] at h7
      omega)
    have dl : ((n : Int) != (m : Int)) = true := by
      rw [bne_iff_ne]
      intro e
      exact hn (by omega)
    clear h3 k3 h5 k5 h6 k6 hn
    go_enter Tryz.func75, Tryz.ntmps75
    go_wp2
    go_ret
    exact ⟨by rw [HQ.out]; rfl, by (repeat' (first | (with_reducible first | exact Up.refl _ | assumption | refine Up.alloc ?_ _ | refine Up.drew ?_ | refine Up.drewN ?_ _ | refine Up.setCell ?_ ?_ _ | refine Up.call ?_ (by assumption)) | go_size))⟩

end Go.Proofs.YtpellcdggaeppaaGreatDoor.Dr
end

section
namespace Go.Proofs.YtpellcdggaeppaaGreatDoor.Dr
open List renaming getElem_toArray → lga, getElem_cons_zero → lgz, getElem_cons_succ → lgs, setIfInBounds_toArray → lsa, set_cons_zero → lsz, set_cons_succ → lss
open Go.ChangeShapes Go.WideShapes Go.RowKit Go.Shelf
open Go.Proofs.YtpellcdggaeppaaGreatDoor.Pob
open Go.Proofs.YtpellcdggaeppaaGreatDoor.PathM (Seg)
open Go.Proofs.YtpellcdggaeppaaGreatDoor.Path (SegV)
set_option linter.unusedVariables false
set_option linter.unusedSimpArgs false

theorem at_op {P : Program} {ops : Array Oper} {rest : List Oper} {o : Oper} {a : Act} {w : World} {Q : Exit → Act → World → Prop} (op : Op) (ho : o.op = op) (h : wpList P ops Q (o :: rest) a w) : wpList P ops Q (o :: rest) a w := h
theorem infoState : (Tryz.prog.info? 62).map (·.size) = some 16 := by kernel_rfl
/-- a part of a writer's fields turns -/
theorem WBuf.sets {B b : Nat} {bs : List UInt8} : ∀ (vs old pre rest : List Value) (w : World), old.length = vs.length → WBuf (Rl (pre ++ (old ++ rest))) B b bs w → WBuf (Rl (pre ++ (vs ++ rest))) B b bs (w.setCells b (3 + pre.length) vs)
  | [], [], pre, rest, w, _, h => h
  | [], _ :: _, _, _, _, e, _ => by simp at e
  | _ :: _, [], _, _, _, e, _ => by simp at e
  | v :: vs, o :: old, pre, rest, w, e, h => by
    have h1 : WBuf (Rl ((pre ++ [v]) ++ (old ++ rest))) B b bs (w.setCell ⟨b, 3 + pre.length, none⟩ v) := by
      have h2 := h.set pre.length (by simp) v
      have e2 : (pre ++ (o :: old ++ rest)).set pre.length v = (pre ++ [v]) ++ (old ++ rest) := by simp
      rw [e2] at h2
      exact h2
    have ih := WBuf.sets vs old (pre ++ [v]) rest _ (by simpa using e) h1
    have e3 : 3 + (pre ++ [v]).length = 3 + pre.length + 1 := by simp; omega
    rw [e3, List.append_assoc] at ih
    exact ih
theorem Below.sets {B b : Nat} (hB : B ≤ b) : ∀ (vs : List Value) (i : Nat) (w w1 : World), Below B w w1 → Below B w (w1.setCells b i vs)
  | [], _, _, _, h => h
  | v :: vs, i, w, w1, h => Below.sets hB vs (i + 1) w _ (h.setCell (p := ⟨b, i, none⟩) hB v)
theorem OK.sets {b : Nat} : ∀ (vs : List Value) (i : Nat) (w w1 : World), OK b w w1 → OK b w (w1.setCells b i vs)
  | [], _, _, _, h => h
  | v :: vs, i, w, w1, h => OK.sets vs (i + 1) w _ (OK.setB h i v)
theorem WBuf.range {B b : Nat} {bs : List UInt8} {pre O tail : List Value} {w : World} (h : WBuf (Rl (pre ++ (O ++ tail))) B b bs w) : w.rangeAt b (3 + pre.length) O := fun j v hj => by
  rw [Nat.add_assoc]
  refine h.cell (pre.length + j) ?_
  have hl := (List.getElem?_eq_some_iff.1 hj).1
  rw [List.getElem?_append_right (by omega), Nat.add_sub_cancel_left, List.getElem?_append_left hl]
  exact hj
theorem WBuf.there {B b : Nat} {bs : List UInt8} {l : List Value} {w : World} (h : WBuf (Rl l) B b bs w) {i n : Nat} (hn : i + n ≤ l.length) : w.there b (3 + i) n := fun j hj => by
  rw [Nat.add_assoc]
  refine ⟨?_, h.free _⟩
  rw [h.cell (i + j) (List.getElem?_eq_getElem (by omega))]
  rfl
theorem Sm.one {x : Sm} (h : x.dv.oneCell' = true) : ∀ u ∈ x.cells, u.oneCell' = true := fun u hu => by
  simp only [Sm.cells, List.mem_cons, List.not_mem_nil, or_false] at hu
  rcases hu with h | h | h | h | h | h | h | h | h | h | h | h | h | h | h | h <;> subst h <;> first | rfl | assumption
theorem clip_lenB (c : ClD) (hl : c.1.length ≤ 10000) (hf : ∀ s ∈ c.1, SegFit s) : (clipB c).length ≤ 10000000010 := by
  have h1 := path_len c.1 hf
  have h2 : 1000000 * c.1.length ≤ 1000000 * 10000 := Nat.mul_le_mul_left _ hl
  unfold clipB
  rw [List.length_append]
  split <;> simp only [List.length_cons, List.length_nil] <;> omega
theorem clips_lenB : ∀ (l : List Pt.Clip) (h : ∀ c ∈ l, c.l.length ≤ 10000 ∧ ∀ s ∈ c.l, SegFit s), (l.flatMap (fun c => clipB (cld c))).length ≤ 10000000010 * l.length
  | [], _ => by simp
  | c :: l, h => by
    have h1 := clips_lenB l (fun x hx => h x (List.mem_cons_of_mem _ hx))
    have h2 := clip_lenB (cld c) (h c (by simp)).1 (h c (by simp)).2
    rw [List.flatMap_cons, List.length_append, List.length_cons, Nat.mul_add]
    omega
theorem ClS.take {w : World} {a : Option Addr} {n k : Nat} {xs : List Pt.Clip} (h : ClS w a n xs) (hk : k ≤ n) : ClS w a k (xs.take k) := by
  obtain ⟨h1, h2, h3⟩ := h
  refine ⟨by rw [List.length_take]; omega, fun h0 => ?_, fun c hc => h3 c (List.mem_of_mem_take hc)⟩
  obtain ⟨b, o, e, hb, hc⟩ := h2 (by omega)
  refine ⟨b, o, e, hb, fun i s j u hs hj => hc i s j u ?_ hj⟩
  rw [List.getElem?_take] at hs
  split at hs
  · exact hs
  · cases hs
theorem ClS.nil {w : World} {a : Option Addr} : ClS w a 0 [] := ⟨rfl, fun h => absurd h (by decide), fun c hc => by cases hc⟩

set_option maxRecDepth 8000 in
set_option maxHeartbeats 8000000 in
/-- the clips are these -/
theorem bound_calls (so ou : Sm) (ca : Option Addr) (n cc : Nat) (old : List Pt.Clip) (fv : Value) (la : Option Addr) (ll lc : Nat) (new : List Pt.Clip) (B b : Nat) (bs : List UInt8) (w0 w : World) (bd q : Bool) (h : WBuf (⟨so, ou, .slice ca n cc, fv⟩ : Wm).R B b bs w) (hBw : B ≤ w.heap.size) (hold : ClS w0 ca n old) (hnew : Pt.ClipV w0 (.slice la ll lc) new) (h1 : so.dv.oneCell' = true) (h2 : ou.dv.oneCell' = true) (hf : ∀ c ∈ new, c.l.length ≤ 10000 ∧ ∀ s ∈ c.l, SegFit s) (hl1 : n ≤ 1000) (hl2 : ll ≤ 1000) (h0 : w0.heap.size ≤ B) (hu : Up w0 w) (hlim : bs.length + 20000000000000 ≤ 140737488355328)
    (hbd : (decide (ll < n) || !decide (old.map cld = (new.map cld).take n)) = bd) (hq : ((bd || decide (n = 0)) && decide (0 < ll)) = q) :
    Calls Tryz.prog 42 #[.pointer (some ⟨b, 0, none⟩), .slice la ll lc] w fun e w' => e = .returned (.tuple #[]) ∧ WBuf (⟨if bd then ou else so, if q then (if bd then ou else so) else ou, .slice la ll lc, fv⟩ : Wm).R B b (bs ++ (if bd then [81, 10] else []) ++ (if q then [113, 10] else []) ++ (new.drop (if bd then 0 else n)).flatMap (fun c => clipB (cld c))) w' ∧ Below B w w' ∧ OK b w w' := by
  have hb := LibA.IsBuffer.lt h
  have hBb := h.1
  obtain ⟨hnS, hlc, hnone⟩ := ClS.of hnew
  have HI := Lib.hid h
  have HB := Lib.hid (Below.refl B w)
  have HO := Lib.hid (OK.refl b w)
  have HN := Lib.hid hnS
  have HF := Lib.hid hf
  have HU0 := Lib.hid hu
  have HOLD := Lib.hid hold
  have H1 := Lib.hid h1
  have H2 := Lib.hid h2
  have c32 := HI.out.cell 32 (v := .slice ca n cc) rfl
  have hlen0 : bs.length + 20000000000000 ≤ 140737488355328 := hlim
  have HBD := Lib.hid hbd
  have HQ := Lib.hid hq
  have HNONE := Lib.hid hnone
  have HU00 := Lib.hid hu
  clear h hold hnew h1 h2 hf hu hlim hnS hbd hq hnone
  obtain ⟨n1, hn1⟩ : ∃ n1, (if bd then 0 else n) = n1 := ⟨_, rfl⟩
  obtain ⟨S1, hS1⟩ : ∃ S1, (if bd then ou else so) = S1 := ⟨_, rfl⟩
  obtain ⟨V1, hV1⟩ : ∃ V1 : Value, (if bd then .slice none 0 0 else .slice ca n cc) = V1 := ⟨_, rfl⟩
  obtain ⟨B1, hB1⟩ : ∃ B1, (bs ++ if bd then [81, 10] else []) = B1 := ⟨_, rfl⟩
  rw [hn1, hS1, hB1]
  obtain ⟨S2, hS2⟩ : ∃ S2, (if q then S1 else ou) = S2 := ⟨_, rfl⟩
  obtain ⟨B2, hB2⟩ : ∃ B2, (B1 ++ if q then [113, 10] else []) = B2 := ⟨_, rfl⟩
  rw [hS2, hB2]
  have hB1l : B1.length ≤ bs.length + 2 := by rw [← hB1]; cases bd <;> simp
  have hB2l : B2.length ≤ bs.length + 4 := by rw [← hB2]; cases q <;> simp <;> omega
  have hn1l : n1 ≤ ll := by
    rw [← hn1]
    by_cases h : ll < n
    · rw [if_pos (by rw [← HBD.out, decide_eq_true h]; rfl)]; omega
    · split <;> omega
  have HS1 := Lib.hid (show S1.dv.oneCell' = true by rw [← hS1]; split; exact H2.out; exact H1.out)
  have HQ2 := Lib.hid (show (decide (n1 = 0) && decide (0 < ll)) = q by rw [← HQ.out, ← hn1]; cases bd <;> simp)
  have HEQ1 := Lib.hid (And.intro hn1 (And.intro hS1 (And.intro hV1 hB1)))
  have HEQ2 := Lib.hid (And.intro hS2 hB2)
  clear hn1 hS1 hV1 hB1 hS2 hB2
  go_enter Tryz.func42, Tryz.ntmps42
  go_upto_region 1 with fail
  go_cut [26] from 12 (fun s26 wx => s26 = .bool bd ∧ Up w wx)
  case first =>
    by_cases g1 : ll < n
    · have d1 : decide (ll < n) = true := decide_eq_true g1
      have G := Lib.hid (show bd = true by rw [← HBD.out, d1]; rfl)
      go_region
      all_goals go_wp2
      all_goals go_meet
      all_goals (case rel => exact ⟨by rw [G.out], by (repeat' (first | (with_reducible first | exact Up.refl _ | assumption | refine Up.alloc ?_ _ | refine Up.drew ?_ | refine Up.drewN ?_ _ | refine Up.setCell ?_ ?_ _ | refine Up.call ?_ (by assumption)) | go_size))⟩)
    · have d1 : decide (ll < n) = false := decide_eq_false g1
      have G := Lib.hid (show (!decide (old.map cld = (new.map cld).take n)) = bd by rw [← HBD.out, d1]; rfl)
      have hnl : n ≤ ll := by omega
      by_cases hn0 : n = 0
      · subst hn0
        have HE := Lib.hid (fun (a : Option Addr) (d : Nat) (W : World) (hW : Up w0 W) => eqClips_calls w0 ca 0 cc old a 0 d [] HOLD.out ClS.nil (by decide) W hW)
        have G2 := Lib.hid (show (!decide (old.map cld = List.map cld [])) = bd by rw [← G.out]; simp)
        refine wp_region_held_drew (S := fun w' => w'.cell? ⟨b, 35, none⟩ = some (.slice ca 0 cc)) (by kernel_rfl) ?_ (fun hHeld => ?_)
        · exact c32
        refine wpAnyH_take (i := 0) (v := ?_) rfl (by decide +kernel) (by decide +kernel) (by decide +kernel) (fun _ _ _ h => h) (Or.inl ⟨by rfl, ?_⟩) (by assumption) ?_
        rotate_left
        · intro w2 hSw
          (try dsimp only at hSw)
          (try (obtain ⟨hs1, hs2⟩ := hSw))
          go_simp
          (try (with_reducible rfl))
        (try simp only [Act.put, lga, lgz, lgs, lsa, lsz, lss])
        refine wpAnyH_take (i := 1) (v := ?_) rfl (by decide +kernel) (by decide +kernel) (by decide +kernel) (fun _ _ _ h => h) (Or.inl ⟨by rfl, ?_⟩) (by assumption) ?_
        rotate_left
        · intro w2 hSw
          (try dsimp only at hSw)
          (try (obtain ⟨hs1, hs2⟩ := hSw))
          go_simp
          (try (with_reducible rfl))
        (try simp only [Act.put, lga, lgz, lgs, lsa, lsz, lss])
        refine wpAnyH_take (i := 2) (v := ?_) rfl (by decide +kernel) (by decide +kernel) (by decide +kernel) (fun _ _ _ h => h) (Or.inl ⟨by rfl, ?_⟩) (by assumption) ?_
        rotate_left
        · intro w2 hSw
          (try dsimp only at hSw)
          (try (obtain ⟨hs1, hs2⟩ := hSw))
          go_simp
          (try (with_reducible rfl))
        (try simp only [Act.put, lga, lgz, lgs, lsa, lsz, lss])
        refine wpAnyH_take (i := 3) (v := ?_) rfl (by decide +kernel) (by decide +kernel) (by decide +kernel) (fun _ _ _ h => h) (Or.inl ⟨by rfl, ?_⟩) (by assumption) ?_
        rotate_left
        · intro w2 hSw
          (try dsimp only at hSw)
          (try (obtain ⟨hs1, hs2⟩ := hSw))
          go_simp
          (try (with_reducible rfl))
        (try simp only [Act.put, lga, lgz, lgs, lsa, lsz, lss])
        refine wpAnyH_take (i := 4) (v := ?_) rfl (by decide +kernel) (by decide +kernel) (by decide +kernel) (fun _ _ _ h => h) (Or.inl ⟨by rfl, ?_⟩) (by assumption) ?_
        rotate_left
        · intro w2 hSw
          (try dsimp only at hSw)
          (try (obtain ⟨hs1, hs2⟩ := hSw))
          go_simp
          (try (with_reducible rfl))
        (try simp only [Act.put, lga, lgz, lgs, lsa, lsz, lss])
        refine wpAnyH_take (i := 5) (v := ?_) rfl (by decide +kernel) (by decide +kernel) (by decide +kernel) (fun _ _ _ h => h) (Or.inl ⟨by rfl, ?_⟩) (by assumption) ?_
        rotate_left
        · intro w2 hSw
          (try dsimp only at hSw)
          (try (obtain ⟨hs1, hs2⟩ := hSw))
          go_simp
          (try (with_reducible rfl))
        (try simp only [Act.put, lga, lgz, lgs, lsa, lsz, lss])
        refine wpAnyH_take (i := 6) (v := ?_) rfl (by decide +kernel) (by decide +kernel) (by decide +kernel) (fun _ _ _ h => h) (Or.inl ⟨by rfl, ?_⟩) (by assumption) ?_
        rotate_left
        · intro w2 hSw
          (try dsimp only at hSw)
          (try (obtain ⟨hs1, hs2⟩ := hSw))
          go_simp
          (try (with_reducible rfl))
        (try simp only [Act.put, lga, lgz, lgs, lsa, lsz, lss])
        refine wpAnyH_take (i := 7) (v := ?_) rfl (by decide +kernel) (by decide +kernel) (by decide +kernel) (fun _ _ _ h => h) (Or.inl ⟨by rfl, ?_⟩) (by assumption) ?_
        rotate_left
        · intro w2 hSw
          (try dsimp only at hSw)
          (try (obtain ⟨hs1, hs2⟩ := hSw))
          go_simp
          (try (with_reducible rfl))
        (try simp only [Act.put, lga, lgz, lgs, lsa, lsz, lss])
        refine wpAnyH_take (i := 8) (v := ?_) rfl (by decide +kernel) (by decide +kernel) (by decide +kernel) (fun _ _ _ h => h) (Or.inl ⟨by rfl, ?_⟩) (by assumption) ?_
        rotate_left
        · intro w2 hSw
          (try dsimp only at hSw)
          (try (obtain ⟨hs1, hs2⟩ := hSw))
          go_simp
          (try (with_reducible rfl))
        (try simp only [Act.put, lga, lgz, lgs, lsa, lsz, lss])
        refine wpAnyH_take (i := 9) (v := ?_) rfl (by decide +kernel) (by decide +kernel) (by decide +kernel) (fun _ _ _ h => h) (Or.inl ⟨by rfl, ?_⟩) (by assumption) ?_
        rotate_left
        · intro w2 hSw
          (try dsimp only at hSw)
          (try (obtain ⟨hs1, hs2⟩ := hSw))
          go_simp
          (try (with_reducible rfl))
        (try simp only [Act.put, lga, lgz, lgs, lsa, lsz, lss])
        refine wpAnyH_take (i := 10) (v := ?_) rfl (by decide +kernel) (by decide +kernel) (by decide +kernel) (fun _ _ _ h => h) (Or.inl ⟨by rfl, ?_⟩) (by assumption) ?_
        rotate_left
        · intro w2 hSw
          (try dsimp only at hSw)
          (try (obtain ⟨hs1, hs2⟩ := hSw))
          go_simp
          (try (with_reducible rfl))
        (try simp only [Act.put, lga, lgz, lgs, lsa, lsz, lss])
        refine wpAnyH_take (i := 11) (v := ?_) rfl (by decide +kernel) (by decide +kernel) (by decide +kernel) (fun _ _ _ h => h) (Or.inl ⟨by rfl, ?_⟩) (by assumption) ?_
        rotate_left
        · intro w2 hSw
          (try dsimp only at hSw)
          (try (obtain ⟨hs1, hs2⟩ := hSw))
          go_simp
          (try (with_reducible rfl))
        (try simp only [Act.put, lga, lgz, lgs, lsa, lsz, lss])
        refine wpAnyH_ready (rs := [12]) (by decide +kernel) (by simp) ?_
        refine AllReadyH.cons rfl (fun K hK => ?_) (AllReadyH.nil)
        (try simp only [lga, lgz, lgs])
        (go_simp; go_at_call 75; ((with_reducible refine Calls.mono (HE.out _ _ _ ?_) ?_); (focus (exact HU0.out.call (by (repeat' (first | (with_reducible first | exact Up.refl _ | assumption | refine Up.alloc ?_ _ | refine Up.drew ?_ | refine Up.drewN ?_ _ | refine Up.setCell ?_ ?_ _ | refine Up.call ?_ (by assumption)) | go_size))))); rintro e w1 ⟨rfl, hu1⟩); (try dsimp only))
        refine hK.out _ _ ?_ (fun hHeld => ?_)
        · exact (hu1.cells.1 _ 35 (by simp; omega)).trans hHeld
        clear hK K
        (try simp only [Act.put, lga, lgz, lgs, lsa, lsz, lss])
        refine wpAnyH_take (i := 13) (v := ?_) rfl (by decide +kernel) (by decide +kernel) (by decide +kernel) (fun _ _ _ h => h) (Or.inl ⟨by rfl, ?_⟩) (by assumption) ?_
        rotate_left
        · intro w2 hSw
          (try dsimp only at hSw)
          (try (obtain ⟨hs1, hs2⟩ := hSw))
          go_simp
          (try (with_reducible rfl))
        (try simp only [Act.put, lga, lgz, lgs, lsa, lsz, lss])
        refine wpAnyH_take (i := 14) (v := ?_) rfl (by decide +kernel) (by decide +kernel) (by decide +kernel) (fun _ _ _ h => h) (Or.inl ⟨by rfl, ?_⟩) (by assumption) ?_
        rotate_left
        · intro w2 hSw
          (try dsimp only at hSw)
          (try (obtain ⟨hs1, hs2⟩ := hSw))
          go_simp
          (try (with_reducible rfl))
        (try simp only [Act.put, lga, lgz, lgs, lsa, lsz, lss])
        refine wpAnyH_done (by decide +kernel) ?_ _
        clear hHeld
        all_goals go_wp2
        all_goals go_meet
        all_goals (case rel => exact ⟨by (have h9 : ¬ ((ll : Int) < 0) := by omega); rw [← G2.out]; simp [h9], by (repeat' (first | (with_reducible first | exact Up.refl _ | assumption | refine Up.alloc ?_ _ | refine Up.drew ?_ | refine Up.drewN ?_ _ | refine Up.setCell ?_ ?_ _ | refine Up.call ?_ (by assumption)) | go_size))⟩)
      · obtain ⟨g, o, rfl, hg, hc⟩ := HN.out.2.1 (by omega)
        clear hc
        have HE := Lib.hid (fun (d : Nat) (W : World) (hW : Up w0 W) => eqClips_calls w0 ca n cc old (some ⟨g, o, none⟩) n d (new.take n) HOLD.out (HN.out.take hnl) (by omega) W hW)
        have G2 := Lib.hid (show (!decide (old.map cld = (new.take n).map cld)) = bd by rw [← G.out, List.map_take])
        have hlc0 : ¬ lc = 0 := by omega
        have hnc : n ≤ lc := by omega
        refine wp_region_held_drew (S := fun w' => w'.cell? ⟨b, 35, none⟩ = some (.slice ca n cc)) (by kernel_rfl) ?_ (fun hHeld => ?_)
        · exact c32
        refine wpAnyH_take (i := 0) (v := ?_) rfl (by decide +kernel) (by decide +kernel) (by decide +kernel) (fun _ _ _ h => h) (Or.inl ⟨by rfl, ?_⟩) (by assumption) ?_
        rotate_left
        · intro w2 hSw
          (try dsimp only at hSw)
          (try (obtain ⟨hs1, hs2⟩ := hSw))
          go_simp
          (try (with_reducible rfl))
        (try simp only [Act.put, lga, lgz, lgs, lsa, lsz, lss])
        refine wpAnyH_take (i := 1) (v := ?_) rfl (by decide +kernel) (by decide +kernel) (by decide +kernel) (fun _ _ _ h => h) (Or.inl ⟨by rfl, ?_⟩) (by assumption) ?_
        rotate_left
        · intro w2 hSw
          (try dsimp only at hSw)
          (try (obtain ⟨hs1, hs2⟩ := hSw))
          go_simp
          (try (with_reducible rfl))
        (try simp only [Act.put, lga, lgz, lgs, lsa, lsz, lss])
        refine wpAnyH_take (i := 2) (v := ?_) rfl (by decide +kernel) (by decide +kernel) (by decide +kernel) (fun _ _ _ h => h) (Or.inl ⟨by rfl, ?_⟩) (by assumption) ?_
        rotate_left
        · intro w2 hSw
          (try dsimp only at hSw)
          (try (obtain ⟨hs1, hs2⟩ := hSw))
          go_simp
          (try (with_reducible rfl))
        (try simp only [Act.put, lga, lgz, lgs, lsa, lsz, lss])
        refine wpAnyH_take (i := 3) (v := ?_) rfl (by decide +kernel) (by decide +kernel) (by decide +kernel) (fun _ _ _ h => h) (Or.inl ⟨by rfl, ?_⟩) (by assumption) ?_
        rotate_left
        · intro w2 hSw
          (try dsimp only at hSw)
          (try (obtain ⟨hs1, hs2⟩ := hSw))
          go_simp
          (try (with_reducible rfl))
        (try simp only [Act.put, lga, lgz, lgs, lsa, lsz, lss])
        refine wpAnyH_take (i := 4) (v := ?_) rfl (by decide +kernel) (by decide +kernel) (by decide +kernel) (fun _ _ _ h => h) (Or.inl ⟨by rfl, ?_⟩) (by assumption) ?_
        rotate_left
        · intro w2 hSw
          (try dsimp only at hSw)
          (try (obtain ⟨hs1, hs2⟩ := hSw))
          go_simp
          (try (with_reducible rfl))
        (try simp only [Act.put, lga, lgz, lgs, lsa, lsz, lss])
        refine wpAnyH_take (i := 5) (v := ?_) rfl (by decide +kernel) (by decide +kernel) (by decide +kernel) (fun _ _ _ h => h) (Or.inl ⟨by rfl, ?_⟩) (by assumption) ?_
        rotate_left
        · intro w2 hSw
          (try dsimp only at hSw)
          (try (obtain ⟨hs1, hs2⟩ := hSw))
          go_simp
          (try (with_reducible rfl))
        (try simp only [Act.put, lga, lgz, lgs, lsa, lsz, lss])
        refine wpAnyH_take (i := 6) (v := ?_) rfl (by decide +kernel) (by decide +kernel) (by decide +kernel) (fun _ _ _ h => h) (Or.inl ⟨by rfl, ?_⟩) (by assumption) ?_
        rotate_left
        · intro w2 hSw
          (try dsimp only at hSw)
          (try (obtain ⟨hs1, hs2⟩ := hSw))
          go_simp
          (try (with_reducible rfl))
        (try simp only [Act.put, lga, lgz, lgs, lsa, lsz, lss])
        refine wpAnyH_take (i := 7) (v := ?_) rfl (by decide +kernel) (by decide +kernel) (by decide +kernel) (fun _ _ _ h => h) (Or.inl ⟨by rfl, ?_⟩) (by assumption) ?_
        rotate_left
        · intro w2 hSw
          (try dsimp only at hSw)
          (try (obtain ⟨hs1, hs2⟩ := hSw))
          go_simp
          (try (with_reducible rfl))
        (try simp only [Act.put, lga, lgz, lgs, lsa, lsz, lss])
        refine wpAnyH_take (i := 8) (v := ?_) rfl (by decide +kernel) (by decide +kernel) (by decide +kernel) (fun _ _ _ h => h) (Or.inl ⟨by rfl, ?_⟩) (by assumption) ?_
        rotate_left
        · intro w2 hSw
          (try dsimp only at hSw)
          (try (obtain ⟨hs1, hs2⟩ := hSw))
          go_simp
          (try (with_reducible rfl))
        (try simp only [Act.put, lga, lgz, lgs, lsa, lsz, lss])
        refine wpAnyH_take (i := 9) (v := ?_) rfl (by decide +kernel) (by decide +kernel) (by decide +kernel) (fun _ _ _ h => h) (Or.inl ⟨by rfl, ?_⟩) (by assumption) ?_
        rotate_left
        · intro w2 hSw
          (try dsimp only at hSw)
          (try (obtain ⟨hs1, hs2⟩ := hSw))
          go_simp
          (try (with_reducible rfl))
        (try simp only [Act.put, lga, lgz, lgs, lsa, lsz, lss])
        refine wpAnyH_take (i := 10) (v := ?_) rfl (by decide +kernel) (by decide +kernel) (by decide +kernel) (fun _ _ _ h => h) (Or.inl ⟨by rfl, ?_⟩) (by assumption) ?_
        rotate_left
        · intro w2 hSw
          (try dsimp only at hSw)
          (try (obtain ⟨hs1, hs2⟩ := hSw))
          go_simp
          (try (with_reducible rfl))
        (try simp only [Act.put, lga, lgz, lgs, lsa, lsz, lss])
        refine wpAnyH_take (i := 11) (v := ?_) rfl (by decide +kernel) (by decide +kernel) (by decide +kernel) (fun _ _ _ h => h) (Or.inl ⟨by rfl, ?_⟩) (by assumption) ?_
        rotate_left
        · intro w2 hSw
          (try dsimp only at hSw)
          (try (obtain ⟨hs1, hs2⟩ := hSw))
          go_simp
          (try (with_reducible rfl))
        (try simp only [Act.put, lga, lgz, lgs, lsa, lsz, lss])
        refine wpAnyH_ready (rs := [12]) (by decide +kernel) (by simp) ?_
        refine AllReadyH.cons rfl (fun K hK => ?_) (AllReadyH.nil)
        (try simp only [lga, lgz, lgs])
        (go_simp; go_at_call 75; ((with_reducible refine Calls.mono (HE.out _ _ ?_) ?_); (focus (exact HU0.out.call (by (repeat' (first | (with_reducible first | exact Up.refl _ | assumption | refine Up.alloc ?_ _ | refine Up.drew ?_ | refine Up.drewN ?_ _ | refine Up.setCell ?_ ?_ _ | refine Up.call ?_ (by assumption)) | go_size))))); rintro e w1 ⟨rfl, hu1⟩); (try dsimp only))
        refine hK.out _ _ ?_ (fun hHeld => ?_)
        · exact (hu1.cells.1 _ 35 (by simp; omega)).trans hHeld
        clear hK K
        (try simp only [Act.put, lga, lgz, lgs, lsa, lsz, lss])
        refine wpAnyH_take (i := 13) (v := ?_) rfl (by decide +kernel) (by decide +kernel) (by decide +kernel) (fun _ _ _ h => h) (Or.inl ⟨by rfl, ?_⟩) (by assumption) ?_
        rotate_left
        · intro w2 hSw
          (try dsimp only at hSw)
          (try (obtain ⟨hs1, hs2⟩ := hSw))
          go_simp
          (try (with_reducible rfl))
        (try simp only [Act.put, lga, lgz, lgs, lsa, lsz, lss])
        refine wpAnyH_take (i := 14) (v := ?_) rfl (by decide +kernel) (by decide +kernel) (by decide +kernel) (fun _ _ _ h => h) (Or.inl ⟨by rfl, ?_⟩) (by assumption) ?_
        rotate_left
        · intro w2 hSw
          (try dsimp only at hSw)
          (try (obtain ⟨hs1, hs2⟩ := hSw))
          go_simp
          (try (with_reducible rfl))
        (try simp only [Act.put, lga, lgz, lgs, lsa, lsz, lss])
        refine wpAnyH_done (by decide +kernel) ?_ _
        clear hHeld
        all_goals go_wp2
        all_goals go_meet
        all_goals (case rel => exact ⟨by rw [← G2.out, List.map_take], by (repeat' (first | (with_reducible first | exact Up.refl _ | assumption | refine Up.alloc ?_ _ | refine Up.drew ?_ | refine Up.drewN ?_ _ | refine Up.setCell ?_ ?_ _ | refine Up.call ?_ (by assumption)) | go_size))⟩)
  obtain ⟨rfl, hu1⟩ := hcut
  rename World => w1
  have zz1 := hu1.size
  replace HI := Lib.hid (HI.out.old hu1)
  replace HB := Lib.hid (hu1.mono hBw)
  replace HO := Lib.hid ((OK.refl b w).upc hu1)
  replace HU0 := Lib.hid (HU0.out.call hu1)
  replace c32 := HI.out.cell 32 (v := .slice ca n cc) rfl
  have hb1 : b < w1.heap.size := by omega
  clear hu1
  go_upto_if 26 with fail
  go_cut [4] from 12 (fun s4 wx => s4 = .int .i64 n1 ∧ Hid (WBuf (⟨S1, ou, V1, fv⟩ : Wm).R B b B1 wx ∧ Below B w wx ∧ OK b w wx))
  case first =>
    obtain ⟨hn1, hS1, hV1, hB1⟩ := HEQ1.out
    clear HEQ1
    cases bd
    · rw [if_neg Bool.false_ne_true] at hn1 hS1 hV1 hB1
      subst hn1 hS1 hV1
      rw [List.append_nil] at hB1
      subst hB1
      go_wp2
      go_meet
      case rel => exact ⟨rfl, Lib.hid ⟨HI.out, HB.out, HO.out⟩⟩
    · rw [if_pos rfl] at hn1 hS1 hV1 hB1
      subst hn1 hS1 hV1 hB1
      obtain ⟨O, hO⟩ : ∃ O, ou.cells = O := ⟨_, rfl⟩
      have h1O : O.toArray.all (·.oneCell') = true := all_oneCell_toArray (by rw [← hO]; exact Sm.one H2.out)
      have hOs : O.length = 16 := by rw [← hO]; rfl
      have hOa : O.toArray.size = 16 := by rw [List.size_toArray]; exact hOs
      have HEO := Lib.hid hO
      clear hO
      go_wp2_with (first
        | (go_at_call 21; ((refine Calls.mono (line_calls _ B b (bs) [81] none 0 0 [] _ (HI.out.old ?_) ?_ (irow_none _ _) (fun z hz => by cases hz) (by decide) ?_) ?_); (focus ((repeat' (first | (with_reducible first | exact Up.refl _ | assumption | refine Up.alloc ?_ _ | refine Up.drew ?_ | refine Up.drewN ?_ _ | refine Up.setCell ?_ ?_ _ | refine Up.call ?_ (by assumption)) | go_size)))); (focus (first | (simp; omega) | omega)); (focus (omega)); rintro e w9 ⟨rfl, hI9, hb9, ho9⟩; have HI9 := Lib.hid hI9; have HB9 := Lib.hid (HB.out.trans (Below.trans ((show Up w1 _ by (repeat' (first | (with_reducible first | exact Up.refl _ | assumption | refine Up.alloc ?_ _ | refine Up.drew ?_ | refine Up.drewN ?_ _ | refine Up.setCell ?_ ?_ _ | refine Up.call ?_ (by assumption)) | go_size))).mono (by omega)) hb9)); have HO9 := Lib.hid (HO.out.tr (((OK.refl b w1).upc (show Up w1 _ by (repeat' (first | (with_reducible first | exact Up.refl _ | assumption | refine Up.alloc ?_ _ | refine Up.drew ?_ | refine Up.drewN ?_ _ | refine Up.setCell ?_ ?_ _ | refine Up.call ?_ (by assumption)) | go_size)))).tr ho9)); clear hI9 hb9 ho9; have z9 := HB9.out.size; have lb9 := LibA.IsBuffer.lt HI9.out))
        | ((refine at_op (.load 62 (.tmp 33)) rfl ?_); (refine wpList_load_mid rfl 62 (.tmp 33) rfl b 19 rfl O _ (by have h9 := HI9.out; unfold Wm.R Wm.rest at h9; rw [HEO.out] at h9; exact WBuf.range (pre := so.cells) h9) Tryz.underlying62 rfl (by rw [hOs]; exact infoState) ?_))
        | ((refine at_op (.store 62 (.tmp 36) (.tmp 34)) rfl ?_); (refine wpList_store_mid rfl 62 (.tmp 36) (.tmp 34) rfl b 3 O.toArray rfl rfl (by rw [hOa]; exact WBuf.there (i := 0) HI9.out (by simp [Wm.rest, Sm.cells])) (by rw [hOa]; exact infoState) h1O ?_);
            (have HIA := Lib.hid (show WBuf (⟨ou, ou, .slice ca n cc, fv⟩ : Wm).R B b (bs ++ [81, 10]) (w9.setCells b 3 O.toArray.toList) by rw [show O.toArray.toList = O by simp, ← HEO.out]; exact WBuf.sets ou.cells so.cells [] _ w9 rfl HI9.out)); (have HBA := Lib.hid (Below.sets hBb O.toArray.toList 3 w w9 HB9.out)); (have HOA := Lib.hid (OK.sets O.toArray.toList 3 w w9 HO9.out)); generalize (w9.setCells b 3 O.toArray.toList) = wA at HIA HBA HOA ⊢; (have cA := HIA.out.cell 32 (v := .slice ca n cc) rfl); (have fA := HIA.out.free 35); (have zA := HBA.out.size); (have lA := LibA.IsBuffer.lt HIA.out)))
      go_meet
      case rel => exact ⟨rfl, Lib.hid ⟨HIA.out.set 32 (by simp [Wm.rest, Sm.cells]) (.slice none 0 0), Below.setCell HBA.out (p := ⟨b, 35, none⟩) hBb _, OK.setB HOA.out 35 _⟩⟩
  obtain ⟨rfl, hR⟩ := hcut
  rename World => w2
  replace HI := Lib.hid hR.out.1
  replace HB := Lib.hid hR.out.2.1
  replace HO := Lib.hid hR.out.2.2
  clear hR c32 hb1
  have zz2 := HB.out.size
  have hb2 : b < w2.heap.size := by omega
  go_upto_region 4 with fail
  go_cut [45] from 12 (fun s45 wx => s45 = .bool q ∧ wx = w2)
  case first =>
    by_cases g2 : n1 = 0
    · subst g2
      by_cases g3 : 0 < ll
      · have d3 : decide (0 < ll) = true := decide_eq_true g3
        have G := Lib.hid (show q = true by rw [← HQ2.out, d3]; rfl)
        go_wp2
        all_goals go_meet
        all_goals (case rel => exact ⟨by rw [G.out], rfl⟩)
      · have d3 : decide (0 < ll) = false := decide_eq_false g3
        have G := Lib.hid (show q = false by rw [← HQ2.out, d3]; rfl)
        go_wp2
        all_goals go_meet
        all_goals (case rel => exact ⟨by rw [G.out], rfl⟩)
    · have d2 : ((n1 : Int) == 0) = false := by simp [g2]
      have G := Lib.hid (show q = false by rw [← HQ2.out, decide_eq_false g2]; rfl)
      clear g2
      go_wp2
      all_goals go_meet
      all_goals (case rel => exact ⟨by rw [G.out], rfl⟩)
  obtain ⟨rfl, rfl⟩ := hcut
  rename World => w2
  go_upto_if 45 with fail
  go_cut [] from 12 (fun wx => Hid (WBuf (⟨S1, S2, V1, fv⟩ : Wm).R B b B2 wx ∧ Below B w wx ∧ OK b w wx))
  case first =>
    obtain ⟨hS2, hB2⟩ := HEQ2.out
    clear HEQ2
    cases q
    · rw [if_neg Bool.false_ne_true] at hS2 hB2
      subst hS2
      rw [List.append_nil] at hB2
      subst hB2
      go_wp2
      go_meet
      case rel => exact Lib.hid ⟨HI.out, HB.out, HO.out⟩
    · rw [if_pos rfl] at hS2 hB2
      subst hS2 hB2
      obtain ⟨O, hO⟩ : ∃ O, S1.cells = O := ⟨_, rfl⟩
      have h1O : O.toArray.all (·.oneCell') = true := all_oneCell_toArray (by rw [← hO]; exact Sm.one HS1.out)
      have hOs : O.length = 16 := by rw [← hO]; rfl
      have hOa : O.toArray.size = 16 := by rw [List.size_toArray]; exact hOs
      have HEO := Lib.hid hO
      clear hO
      go_wp2_with (first
        | (go_at_call 21; ((refine Calls.mono (line_calls _ B b (B1) [113] none 0 0 [] _ (HI.out.old ?_) ?_ (irow_none _ _) (fun z hz => by cases hz) (by decide) ?_) ?_); (focus ((repeat' (first | (with_reducible first | exact Up.refl _ | assumption | refine Up.alloc ?_ _ | refine Up.drew ?_ | refine Up.drewN ?_ _ | refine Up.setCell ?_ ?_ _ | refine Up.call ?_ (by assumption)) | go_size)))); (focus (first | (simp; omega) | omega)); (focus (omega)); rintro e w9 ⟨rfl, hI9, hb9, ho9⟩; have HI9 := Lib.hid hI9; have HB9 := Lib.hid (HB.out.trans (Below.trans ((show Up w2 _ by (repeat' (first | (with_reducible first | exact Up.refl _ | assumption | refine Up.alloc ?_ _ | refine Up.drew ?_ | refine Up.drewN ?_ _ | refine Up.setCell ?_ ?_ _ | refine Up.call ?_ (by assumption)) | go_size))).mono (by omega)) hb9)); have HO9 := Lib.hid (HO.out.tr (((OK.refl b w2).upc (show Up w2 _ by (repeat' (first | (with_reducible first | exact Up.refl _ | assumption | refine Up.alloc ?_ _ | refine Up.drew ?_ | refine Up.drewN ?_ _ | refine Up.setCell ?_ ?_ _ | refine Up.call ?_ (by assumption)) | go_size)))).tr ho9)); clear hI9 hb9 ho9; have z9 := HB9.out.size; have lb9 := LibA.IsBuffer.lt HI9.out))
        | ((refine at_op (.load 62 (.tmp 51)) rfl ?_); (refine wpList_load_mid rfl 62 (.tmp 51) rfl b 3 rfl O _ (by have h9 := HI9.out; unfold Wm.R Wm.rest at h9; rw [HEO.out] at h9; exact WBuf.range (pre := []) h9) Tryz.underlying62 rfl (by rw [hOs]; exact infoState) ?_))
        | ((refine at_op (.store 62 (.tmp 54) (.tmp 52)) rfl ?_); (refine wpList_store_mid rfl 62 (.tmp 54) (.tmp 52) rfl b 19 O.toArray rfl rfl (by rw [hOa]; exact WBuf.there (i := 16) HI9.out (by simp [Wm.rest, Sm.cells])) (by rw [hOa]; exact infoState) h1O ?_);
            (have HIA := Lib.hid (show WBuf (⟨S1, S1, V1, fv⟩ : Wm).R B b (B1 ++ [113, 10]) (w9.setCells b 19 O.toArray.toList) by rw [show O.toArray.toList = O by simp, ← HEO.out]; exact WBuf.sets S1.cells ou.cells S1.cells [V1, fv] w9 rfl HI9.out)); (have HBA := Lib.hid (Below.sets hBb O.toArray.toList 19 w w9 HB9.out)); (have HOA := Lib.hid (OK.sets O.toArray.toList 19 w w9 HO9.out)); generalize (w9.setCells b 19 O.toArray.toList) = wA at HIA HBA HOA ⊢))
      go_meet
      case rel => exact Lib.hid ⟨HIA.out, HBA.out, HOA.out⟩
  rename World => w3
  replace HI := Lib.hid hcut.out.1
  replace HB := Lib.hid hcut.out.2.1
  replace HO := Lib.hid hcut.out.2.2
  clear hcut hb2
  have zz3 := HB.out.size
  have hb3 : b < w3.heap.size := by omega
  obtain ⟨r, rfl⟩ : ∃ r, ll = n1 + r := ⟨ll - n1, by omega⟩
  by_cases hr : 0 < r
  · obtain ⟨g, o, rfl, hg, hc⟩ := HN.out.2.1 (by omega)
    have hlc1 : ¬ lc = n1 := by omega
    have HC := Lib.hid hc
    clear hc
    go_wp2
    go_loopw [59] (fun s59 wr => ∃ i : Nat, i ≤ r ∧ s59 = .int .i64 i ∧ Hid (WBuf (⟨S1, S2, V1, fv⟩ : Wm).R B b (B2 ++ ((new.drop n1).take i).flatMap (fun c => clipB (cld c))) wr ∧ Below B w wr ∧ OK b w wr)) (fun s59 _ => r - (intOf s59).toNat)
    case atStart => exact ⟨0, Nat.zero_le _, rfl, Lib.hid ⟨by have := HI.out; simpa using this, HB.out, HO.out⟩⟩
    case round =>
      obtain ⟨i, hi, rfl, HR⟩ := hrel
      have zr := HR.out.2.1.size
      have hbr : b < wr.heap.size := by omega
      by_cases hlt : i < r
      · have dlt : decide (i < r) = true := decide_eq_true hlt
        have HUR := Lib.hid (up_below HU00.out HR.out.2.1 h0)
        obtain ⟨c, hx⟩ : ∃ c, new[n1 + i]? = some c := ⟨_, List.getElem?_eq_getElem (by have := HN.out.1; omega)⟩
        have hcl := HF.out c (List.mem_of_getElem? hx)
        have hsv := HN.out.2.2 c (List.mem_of_getElem? hx)
        have HST := Lib.hid (show ((new.drop n1).take (i + 1)).flatMap (fun c => clipB (cld c)) = ((new.drop n1).take i).flatMap (fun c => clipB (cld c)) ++ clipB (cld c) by
          rw [List.take_add_one, List.getElem?_drop, hx]
          simp)
        have HNL := Lib.hid (show (((new.drop n1).take i).flatMap (fun c => clipB (cld c))).length ≤ 10000000010 * i by
          have h1 := clips_lenB ((new.drop n1).take i) (fun x hx => HF.out x (List.mem_of_mem_drop (List.mem_of_mem_take hx)))
          rw [List.length_take] at h1
          have : min i (new.drop n1).length ≤ i := Nat.min_le_left _ _
          have h3 := Nat.mul_le_mul_left 10000000010 this
          omega)
        obtain ⟨v, l, eo⟩ := c
        obtain ⟨pa, pc, hv⟩ : ∃ a c, v = .slice a l.length c := by
          rcases hsv with ⟨a, cap, e, e2⟩ | ⟨_, _, cap, e, _⟩
          · have e3 : l = [] := e2
            subst e3
            exact ⟨_, _, e⟩
          · exact ⟨_, _, e⟩
        subst hv
        have q0 : wr.cell? ⟨g, o + n1 * 2 + i * 2, none⟩ = some (.slice pa l.length pc) := (HUR.out.cells.1 g _ hg).trans (by rw [show o + n1 * 2 + i * 2 = o + (n1 + i) * 2 + 0 by omega]; exact HC.out (n1 + i) _ 0 _ hx rfl)
        have q1 : wr.cell? ⟨g, o + n1 * 2 + i * 2 + 1, none⟩ = some (.bool eo) := (HUR.out.cells.1 g _ hg).trans (by rw [show o + n1 * 2 + i * 2 + 1 = o + (n1 + i) * 2 + 1 by omega]; exact HC.out (n1 + i) _ 1 _ hx rfl)
        have lg : g < wr.heap.size := Nat.lt_of_lt_of_le hg HUR.out.size
        obtain ⟨N, hN⟩ : ∃ N, l.length = N := ⟨_, rfl⟩
        have hNl : N ≤ 10000 := by rw [← hN]; exact hcl.1
        have HLN := Lib.hid hN
        rw [hN] at q0
        have HSV := Lib.hid (show SegV w0 (.slice pa N pc) l by rw [← hN]; exact hsv)
        have HFS := Lib.hid hcl.2
        have HPL := Lib.hid (show (pathB l).length ≤ 10000000000 by have h1 := path_len l hcl.2; have h2 : 1000000 * l.length ≤ 1000000 * 10000 := Nat.mul_le_mul_left _ hcl.1; omega)
        have hi9 : 10000000010 * i ≤ 10000000010 * 1000 := Nat.mul_le_mul_left _ (by omega)
        clear hx hcl hsv hN
        obtain ⟨X, hX⟩ : ∃ X, B2 ++ ((new.drop n1).take i).flatMap (fun c => clipB (cld c)) = X := ⟨_, rfl⟩
        have HX := Lib.hid hX
        have hXl : X.length ≤ bs.length + 4 + 10000000010 * i := by rw [← hX, List.length_append]; have := HNL.out; omega
        rw [hX] at HR
        clear hX
        cases eo
        · go_wp2_with (first
            | (go_at_call 45; ((refine Calls.mono (path_calls _ B b X pa N pc l w0 _ HSV.out HLN.out (by omega) HFS.out h0 ?_ (HR.out.1.old ?_) ?_ ?_) ?_); (focus (exact HUR.out.call (by (repeat' (first | (with_reducible first | exact Up.refl _ | assumption | refine Up.alloc ?_ _ | refine Up.drew ?_ | refine Up.drewN ?_ _ | refine Up.setCell ?_ ?_ _ | refine Up.call ?_ (by assumption)) | go_size))))); (focus ((repeat' (first | (with_reducible first | exact Up.refl _ | assumption | refine Up.alloc ?_ _ | refine Up.drew ?_ | refine Up.drewN ?_ _ | refine Up.setCell ?_ ?_ _ | refine Up.call ?_ (by assumption)) | go_size)))); (focus (first | (simp; omega) | omega)); (focus (omega)); rintro e w5 ⟨rfl, hI5, hb5, ho5⟩; have HI5 := Lib.hid hI5; have HB5 := Lib.hid (HR.out.2.1.trans (Below.trans ((show Up wr _ by (repeat' (first | (with_reducible first | exact Up.refl _ | assumption | refine Up.alloc ?_ _ | refine Up.drew ?_ | refine Up.drewN ?_ _ | refine Up.setCell ?_ ?_ _ | refine Up.call ?_ (by assumption)) | go_size))).mono (by omega)) hb5)); have HO5 := Lib.hid (HR.out.2.2.tr (((OK.refl b wr).upc (show Up wr _ by (repeat' (first | (with_reducible first | exact Up.refl _ | assumption | refine Up.alloc ?_ _ | refine Up.drew ?_ | refine Up.drewN ?_ _ | refine Up.setCell ?_ ?_ _ | refine Up.call ?_ (by assumption)) | go_size)))).tr ho5)); have HX5 := Lib.hid ((Bx.new 59 (by decide) wr #[.slice pa N pc, .bool false]).kept ho5 (by omega)); have x1 := HX5.out.cell 1 rfl; have lx5 := HX5.out.lt; have z5 := HB5.out.size; have lb5 := LibA.IsBuffer.lt HI5.out; clear hI5 hb5 ho5))
            | (go_at_call 21; ((refine Calls.mono (line_calls _ B b (X ++ pathB l) [87, 32, 110] none 0 0 [] _ (HI5.out.old ?_) ?_ (irow_none _ _) (fun z hz => by cases hz) (by decide) ?_) ?_); (focus ((repeat' (first | (with_reducible first | exact Up.refl _ | assumption | refine Up.alloc ?_ _ | refine Up.drew ?_ | refine Up.drewN ?_ _ | refine Up.setCell ?_ ?_ _ | refine Up.call ?_ (by assumption)) | go_size)))); (focus (first | (simp; omega) | omega)); (focus (have h2 := HPL.out; simp only [List.length_append]; omega)); rintro e w9 ⟨rfl, hI9, hb9, ho9⟩; have HI9 := Lib.hid hI9; have HB9 := Lib.hid (HB5.out.trans (Below.trans ((show Up w5 _ by (repeat' (first | (with_reducible first | exact Up.refl _ | assumption | refine Up.alloc ?_ _ | refine Up.drew ?_ | refine Up.drewN ?_ _ | refine Up.setCell ?_ ?_ _ | refine Up.call ?_ (by assumption)) | go_size))).mono (by omega)) hb9)); have HO9 := Lib.hid (HO5.out.tr (((OK.refl b w5).upc (show Up w5 _ by (repeat' (first | (with_reducible first | exact Up.refl _ | assumption | refine Up.alloc ?_ _ | refine Up.drew ?_ | refine Up.drewN ?_ _ | refine Up.setCell ?_ ?_ _ | refine Up.call ?_ (by assumption)) | go_size)))).tr ho9)); clear hI9 hb9 ho9; have z9 := HB9.out.size; have lb9 := LibA.IsBuffer.lt HI9.out)))
          go_roundw
          case measure => simp [intOf]; omega
          case rel => exact ⟨i + 1, by omega, by go_num, Lib.hid ⟨by have h8 := HI9.out; rw [HST.out, ← List.append_assoc, HX.out]; simpa [clipB, lineB, numsB] using h8, HB9.out, HO9.out⟩⟩
        · go_wp2_with (first
            | (go_at_call 45; ((refine Calls.mono (path_calls _ B b X pa N pc l w0 _ HSV.out HLN.out (by omega) HFS.out h0 ?_ (HR.out.1.old ?_) ?_ ?_) ?_); (focus (exact HUR.out.call (by (repeat' (first | (with_reducible first | exact Up.refl _ | assumption | refine Up.alloc ?_ _ | refine Up.drew ?_ | refine Up.drewN ?_ _ | refine Up.setCell ?_ ?_ _ | refine Up.call ?_ (by assumption)) | go_size))))); (focus ((repeat' (first | (with_reducible first | exact Up.refl _ | assumption | refine Up.alloc ?_ _ | refine Up.drew ?_ | refine Up.drewN ?_ _ | refine Up.setCell ?_ ?_ _ | refine Up.call ?_ (by assumption)) | go_size)))); (focus (first | (simp; omega) | omega)); (focus (omega)); rintro e w5 ⟨rfl, hI5, hb5, ho5⟩; have HI5 := Lib.hid hI5; have HB5 := Lib.hid (HR.out.2.1.trans (Below.trans ((show Up wr _ by (repeat' (first | (with_reducible first | exact Up.refl _ | assumption | refine Up.alloc ?_ _ | refine Up.drew ?_ | refine Up.drewN ?_ _ | refine Up.setCell ?_ ?_ _ | refine Up.call ?_ (by assumption)) | go_size))).mono (by omega)) hb5)); have HO5 := Lib.hid (HR.out.2.2.tr (((OK.refl b wr).upc (show Up wr _ by (repeat' (first | (with_reducible first | exact Up.refl _ | assumption | refine Up.alloc ?_ _ | refine Up.drew ?_ | refine Up.drewN ?_ _ | refine Up.setCell ?_ ?_ _ | refine Up.call ?_ (by assumption)) | go_size)))).tr ho5)); have HX5 := Lib.hid ((Bx.new 59 (by decide) wr #[.slice pa N pc, .bool true]).kept ho5 (by omega)); have x1 := HX5.out.cell 1 rfl; have lx5 := HX5.out.lt; have z5 := HB5.out.size; have lb5 := LibA.IsBuffer.lt HI5.out; clear hI5 hb5 ho5))
            | (go_at_call 21; ((refine Calls.mono (line_calls _ B b (X ++ pathB l) [87, 42, 32, 110] none 0 0 [] _ (HI5.out.old ?_) ?_ (irow_none _ _) (fun z hz => by cases hz) (by decide) ?_) ?_); (focus ((repeat' (first | (with_reducible first | exact Up.refl _ | assumption | refine Up.alloc ?_ _ | refine Up.drew ?_ | refine Up.drewN ?_ _ | refine Up.setCell ?_ ?_ _ | refine Up.call ?_ (by assumption)) | go_size)))); (focus (first | (simp; omega) | omega)); (focus (have h2 := HPL.out; simp only [List.length_append]; omega)); rintro e w9 ⟨rfl, hI9, hb9, ho9⟩; have HI9 := Lib.hid hI9; have HB9 := Lib.hid (HB5.out.trans (Below.trans ((show Up w5 _ by (repeat' (first | (with_reducible first | exact Up.refl _ | assumption | refine Up.alloc ?_ _ | refine Up.drew ?_ | refine Up.drewN ?_ _ | refine Up.setCell ?_ ?_ _ | refine Up.call ?_ (by assumption)) | go_size))).mono (by omega)) hb9)); have HO9 := Lib.hid (HO5.out.tr (((OK.refl b w5).upc (show Up w5 _ by (repeat' (first | (with_reducible first | exact Up.refl _ | assumption | refine Up.alloc ?_ _ | refine Up.drew ?_ | refine Up.drewN ?_ _ | refine Up.setCell ?_ ?_ _ | refine Up.call ?_ (by assumption)) | go_size)))).tr ho9)); clear hI9 hb9 ho9; have z9 := HB9.out.size; have lb9 := LibA.IsBuffer.lt HI9.out)))
          go_roundw
          case measure => simp [intOf]; omega
          case rel => exact ⟨i + 1, by omega, by go_num, Lib.hid ⟨by have h8 := HI9.out; rw [HST.out, ← List.append_assoc, HX.out]; simpa [clipB, lineB, numsB] using h8, HB9.out, HO9.out⟩⟩
      · have dlt : decide (i < r) = false := decide_eq_false hlt
        obtain rfl : r = i := by omega
        have f35 := HR.out.1.free 35
        have k35 := HR.out.1.cell 32 (v := V1) rfl
        go_wp2
        go_returns
        refine ⟨rfl, ?_, Below.setCell HR.out.2.1 (p := ⟨b, 35, none⟩) hBb _, OK.setB HR.out.2.2 35 _⟩
        have h8 := HR.out.1.set 32 (by simp [Wm.rest, Sm.cells]) (.slice (some ⟨g, o, none⟩) (n1 + r) lc)
        rw [List.take_of_length_le (by rw [List.length_drop]; have := HN.out.1; omega)] at h8
        exact h8
  · obtain rfl : r = 0 := by omega
    have f35 := HI.out.free 35
    have k35 := HI.out.cell 32 (v := V1) rfl
    have HD := Lib.hid (show new.drop n1 = [] from List.drop_eq_nil_of_le (by have := HN.out.1; omega))
    by_cases hlc1 : lc = n1
    · subst hlc1
      go_wp2
      refine wp_loop_rounds 1 ?_
      repeat any_goals (rw [rounds_succ]; go_wp2)
      go_returns
      refine ⟨rfl, ?_, Below.setCell HB.out (p := ⟨b, 35, none⟩) hBb _, OK.setB HO.out 35 _⟩
      rw [HD.out]
      have h8 := HI.out.set 32 (by simp [Wm.rest, Sm.cells]) (.slice la (lc + 0) lc)
      rw [List.flatMap_nil, List.append_nil]
      exact h8
    · go_wp2
      refine wp_loop_rounds 1 ?_
      repeat any_goals (rw [rounds_succ]; go_wp2)
      go_returns
      refine ⟨rfl, ?_, Below.setCell HB.out (p := ⟨b, 35, none⟩) hBb _, OK.setB HO.out 35 _⟩
      rw [HD.out]
      have h8 := HI.out.set 32 (by simp [Wm.rest, Sm.cells]) (.slice la (n1 + 0) lc)
      rw [List.flatMap_nil, List.append_nil]
      exact h8

end Go.Proofs.YtpellcdggaeppaaGreatDoor.Dr
end
