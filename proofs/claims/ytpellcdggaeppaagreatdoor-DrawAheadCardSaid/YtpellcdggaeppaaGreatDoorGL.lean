/- Law 20's pieces: light pages, what Content answers. Its condition: the library's tables lie as they are laid. Law 20's pieces: Content of any page, what it answers, how contents begin. Its condition: the library's tables lie as they are laid. Law 20's answers. Its condition: the library's tables lie as they are laid. Law 20's DrawAhead, walked. Its condition: the library's tables lie as they are laid. Law 20's tables, and a page that came in by value, opened. No condition. -/
import Derived.Test.YtpellcdggaeppaaGreatDoorGK
import Derived.Test.YtpellcdggaeppaaGreatDoorArgs
import Derived.Lib.LaidTab
import Derived.Deep.DeepHandedRow
section
namespace Go.Proofs.YtpellcdggaeppaaGreatDoor.Dr
open Go.ChangeShapes Go.WideShapes Go.ChangeAt Go.RowKit Go.Shelf
open Go.Proofs.YtpellcdggaeppaaGreatDoor.Pob
open Go.Proofs.YtpellcdggaeppaaGreatDoor.MatM (M6)
open Go.Proofs.YtpellcdggaeppaaGreatDoor.PathM (Seg)
open Go.Proofs.YtpellcdggaeppaaGreatDoor.Path (SegV)
open Go.Proofs.YtpellcdggaeppaaGreatDoor.Pt (pageR raw_up)
set_option linter.unusedVariables false
set_option linter.unusedSimpArgs false

def itL (i : Pt.Item) : Bool := decide (i.l.length ≤ 500) && (decide (i.bs.length ≤ 3000) && (decide (i.cl.length ≤ 20) && (decide (i.ds.length ≤ 50) && i.cl.all (fun c => decide (c.l.length ≤ 100)))))
def pageL (its : List Pt.Item) : Bool := decide (its.length ≤ 100) && its.all itL
theorem all_stepL {α : Type} {p : α → Bool} {l : List α} {k : Nat} {x : α} (h : l[k]? = some x) (h1 : (l.take k).all p = true) (h2 : p x = true) : (l.take (k + 1)).all p = true := by
  rw [List.take_add_one, h, List.all_append, h1]
  simp [h2]
theorem all_missL {α : Type} {p : α → Bool} {l : List α} {k : Nat} {x : α} (h : l[k]? = some x) (h2 : p x = false) : l.all p = false := by
  rw [← Bool.not_eq_true, List.all_eq_true]
  intro h3
  rw [h3 x (List.mem_of_getElem? h)] at h2
  cases h2

set_option maxRecDepth 8000 in
set_option maxHeartbeats 8000000 in
theorem light_calls (W H : Int) (its : List Pt.Item) (a : Option Addr) (n c : Nat) (w : World) (h : Sl 22 Pt.Item.cells w a n c its) (hs : ∀ i ∈ its, i.is w) :
    Calls Tryz.prog 9 #[.agg #[.int .i64 W, .int .i64 H, .slice a n c]] w fun e w' => e = .returned (.bool (pageL its)) ∧ Up w w' := by
  have HS := Lib.hid h
  have HN := Lib.hid h.2.2.1
  have HI := Lib.hid hs
  clear h hs
  by_cases hn : 100 < n
  · have dn : decide ((100 : Int) < (n : Int)) = true := decide_eq_true (by omega)
    have HQ := Lib.hid (show pageL its = false by unfold pageL; rw [decide_eq_false (by have := HN.out; omega)]; rfl)
    clear hn
    go_enter Tryz.func9, Tryz.ntmps9
    go_wp2
    go_ret
    exact ⟨by rw [HQ.out]; rfl, by (repeat' (first | (with_reducible first | exact Up.refl _ | assumption | refine Up.alloc ?_ _ | refine Up.drew ?_ | refine Up.drewN ?_ _ | refine Up.setCell ?_ ?_ _ | refine Up.call ?_ (by assumption)) | go_size))⟩
  have dn : decide ((100 : Int) < (n : Int)) = false := decide_eq_false (by omega)
  have HQ0 := Lib.hid (show pageL its = its.all itL by unfold pageL; rw [decide_eq_true (by have := HN.out; omega)]; rfl)
  have hn9 : n ≤ 100 := by omega
  clear hn
  go_enter Tryz.func9, Tryz.ntmps9
  go_wp2
  have HX0 := Lib.hid (Bx.new 24 (by decide) w #[.int .i64 W, .int .i64 H, .slice a n c])
  have HU0 := Lib.hid (show Up w (w.alloc (.cells #[.int .i64 W, .int .i64 H, .slice a n c] 24)) by (repeat' (first | (with_reducible first | exact Up.refl _ | assumption | refine Up.alloc ?_ _ | refine Up.drew ?_ | refine Up.drewN ?_ _ | refine Up.setCell ?_ ?_ _ | refine Up.call ?_ (by assumption)) | go_size)))
  generalize (w.alloc (.cells #[.int .i64 W, .int .i64 H, .slice a n c] 24)) = w0 at HX0 HU0 ⊢
  go_loopw [3] (fun s3 wr => ∃ i : Nat, i ≤ n ∧ s3 = .int .i64 i ∧ Hid ((its.take i).all itL = true) ∧ Hid (Up w0 wr)) (fun s3 _ => n - (intOf s3).toNat)
  case atStart => exact ⟨0, Nat.zero_le _, rfl, Lib.hid (by simp), Lib.hid (Up.refl _)⟩
  case round =>
    obtain ⟨i, hi, rfl, HNO, HUP⟩ := hrel
    have x2 := (HX0.out.up HUP.out).cell 2 rfl
    have lx := (HX0.out.up HUP.out).lt
    have HUR := Lib.hid (HU0.out.call HUP.out)
    have zw := HUR.out.size
    obtain ⟨wo, hwo⟩ : ∃ x, x = wr := ⟨wr, rfl⟩
    subst hwo
    by_cases hlt : i < n
    · have dlt : decide (i < n) = true := decide_eq_true hlt
      obtain ⟨it, hx⟩ : ∃ x, its[i]? = some x := ⟨_, List.getElem?_eq_getElem (by have := HN.out; omega)⟩
      obtain ⟨g, o, ha, hg, hc⟩ := HS.out.2.2.2.2 (by omega)
      subst ha
      have his := HI.out _ (List.mem_of_getElem? hx)
      have HXK := Lib.hid hx
      have hcj := fun q u hq => hc i it q u hx hq
      obtain ⟨k, pv, l, sp, p0, p1, p2, p3, cv, cs, wd, cap, jn, mt, dv, ds, ph, fn, m, bv, zs⟩ := it
      obtain ⟨pa, pl, pc, ca, cl, cc, da, dl, dc, ba, bl, bc, e1, e2, e3, e4, hLs⟩ := Pt.item_lists his
      simp only at e1 e2 e3 e4
      subst e1 e2 e3 e4
      have HRG := Lib.hid (show wo.rangeAt g (o + i * 22) [.int .i64 k, .slice pa pl pc, .int .i64 sp, .int .i64 p0, .int .i64 p1, .int .i64 p2, .int .i64 p3, .slice ca cl cc, .int .i64 wd, .int .i64 cap, .int .i64 jn, .int .i64 mt, .slice da dl dc, .int .i64 ph, .int .i64 fn, .int .i64 m.a, .int .i64 m.b, .int .i64 m.c, .int .i64 m.d, .int .i64 m.x, .int .i64 m.y, .slice ba bl bc] from fun q u hq => (HUR.out.cells.1 g (o + i * 22 + q) hg).trans (hcj q u hq))
      have HLS := Lib.hid hLs
      have HITL := Lib.hid (show itL ⟨k, .slice pa pl pc, l, sp, p0, p1, p2, p3, .slice ca cl cc, cs, wd, cap, jn, mt, .slice da dl dc, ds, ph, fn, m, .slice ba bl bc, zs⟩ = (decide (pl ≤ 500) && (decide (bl ≤ 3000) && (decide (cl ≤ 20) && (decide (dl ≤ 50) && cs.all (fun c => decide (c.l.length ≤ 100)))))) by
        unfold itL
        simp only [hLs.pn, hLs.bn, hLs.dn, hLs.sl.2.2.1])
      obtain ⟨C, hC⟩ : ∃ C : List Value, ([.int .i64 k, .slice pa pl pc, .int .i64 sp, .int .i64 p0, .int .i64 p1, .int .i64 p2, .int .i64 p3, .slice ca cl cc, .int .i64 wd, .int .i64 cap, .int .i64 jn, .int .i64 mt, .slice da dl dc, .int .i64 ph, .int .i64 fn, .int .i64 m.a, .int .i64 m.b, .int .i64 m.c, .int .i64 m.d, .int .i64 m.x, .int .i64 m.y, .slice ba bl bc] : List Value) = C := ⟨_, rfl⟩
      have hC22 : C.length = 22 := by rw [← hC]; rfl
      have hCs : C.toArray.size = 22 := by rw [List.size_toArray]; exact hC22
      have hC1 : C.toArray.all (·.oneCell') = true := by rw [← hC]; simp [Value.oneCell']
      have HCF := Lib.hid (show C.toArray[1]? = some (.slice pa pl pc) ∧ C.toArray[7]? = some (.slice ca cl cc) ∧ C.toArray[12]? = some (.slice da dl dc) ∧ C.toArray[21]? = some (.slice ba bl bc) by rw [← hC]; exact ⟨rfl, rfl, rfl, rfl⟩)
      rw [hC] at HRG
      have HINF := Lib.hid (show (Tryz.prog.info? 50).map (·.size) = some C.length by rw [hC22]; exact infoItem)
      have lg : g < wo.heap.size := Nat.lt_of_lt_of_le hg zw
      clear hc hcj hx his hLs hC hC22
      by_cases h0 : 500 < pl
      · have d0 : decide ((500 : Int) < (pl : Int)) = true := decide_eq_true (by omega)
        have HQ := Lib.hid (show pageL its = false by
          rw [HQ0.out]
          refine all_missL HXK.out ?_
          rw [HITL.out, decide_eq_false (show ¬ pl ≤ 500 by omega)]
          simp)
        clear h0
        go_wp2_with (first
          | ((refine at_op (.load 50 (.tmp 20)) rfl ?_); (refine wpList_load_mid rfl 50 (.tmp 20) rfl g (o + i * 22) (by first | rfl | simp) C _ HRG.out Tryz.underlying50 rfl HINF.out ?_))
          | ((refine at_op (.store 50 (.tmp 4) (.tmp 21)) rfl ?_); (refine wpList_store_Row rfl 50 (.tmp 4) (.tmp 21) rfl wo.heap.size C.toArray rfl rfl #[.int .i64 0, .slice none 0 0, .int .i64 0, .int .i64 0, .int .i64 0, .int .i64 0, .int .i64 0, .slice none 0 0, .int .i64 0, .int .i64 0, .int .i64 0, .int .i64 0, .slice none 0 0, .int .i64 0, .int .i64 0, .int .i64 0, .int .i64 0, .int .i64 0, .int .i64 0, .int .i64 0, .int .i64 0, .slice none 0 0] (by (repeat' (with_reducible first | assumption | (refine Row.at _ _ ?_; (simp; done)) | refine Row.alloc ?_ _ | refine Row.drew ?_ | refine Row.drewN ?_ _ | refine Row.other ?_ (by first | (simp; done) | (simp; omega) | omega) _ | refine Row.up ?_ (by assumption) | refine Row.chg ?_ (by assumption) (by first | (simp; done) | (simp; omega))))) infoItem hCs rfl hC1 ?_); intro w4 hr4 hc4; have HU4 := Lib.hid (show Up wo w4 from ((Chg.of_up (S := []) (show Up wo _ by (repeat' (first | (with_reducible first | exact Up.refl _ | assumption | refine Up.alloc ?_ _ | refine Up.drew ?_ | refine Up.drewN ?_ _ | refine Up.setCell ?_ ?_ _ | refine Up.call ?_ (by assumption)) | go_size)))).call hc4 (fun k hk => Or.inr (by simp at hk; omega))).up); have z4 := HU4.out.size; have lr4 := hr4.lt; have HR4 := Lib.hid hr4; have y1 := hr4.cell 1 HCF.out.1; have y7 := hr4.cell 7 HCF.out.2.1; have y12 := hr4.cell 12 HCF.out.2.2.1; have y21 := hr4.cell 21 HCF.out.2.2.2; clear hr4 hc4))
        go_ret
        exact ⟨by rw [HQ.out]; rfl, HUR.out.call (HU4.out.call (by (repeat' (first | (with_reducible first | exact Up.refl _ | assumption | refine Up.alloc ?_ _ | refine Up.drew ?_ | refine Up.drewN ?_ _ | refine Up.setCell ?_ ?_ _ | refine Up.call ?_ (by assumption)) | go_size))))⟩
      have d0 : decide ((500 : Int) < (pl : Int)) = false := decide_eq_false (by omega)
      have b0 : pl ≤ 500 := by omega
      clear h0
      by_cases h1 : 3000 < bl
      · have d1 : decide ((3000 : Int) < (bl : Int)) = true := decide_eq_true (by omega)
        have HQ := Lib.hid (show pageL its = false by
          rw [HQ0.out]
          refine all_missL HXK.out ?_
          rw [HITL.out, decide_eq_false (show ¬ bl ≤ 3000 by omega)]
          simp)
        clear h1
        go_wp2_with (first
          | ((refine at_op (.load 50 (.tmp 20)) rfl ?_); (refine wpList_load_mid rfl 50 (.tmp 20) rfl g (o + i * 22) (by first | rfl | simp) C _ HRG.out Tryz.underlying50 rfl HINF.out ?_))
          | ((refine at_op (.store 50 (.tmp 4) (.tmp 21)) rfl ?_); (refine wpList_store_Row rfl 50 (.tmp 4) (.tmp 21) rfl wo.heap.size C.toArray rfl rfl #[.int .i64 0, .slice none 0 0, .int .i64 0, .int .i64 0, .int .i64 0, .int .i64 0, .int .i64 0, .slice none 0 0, .int .i64 0, .int .i64 0, .int .i64 0, .int .i64 0, .slice none 0 0, .int .i64 0, .int .i64 0, .int .i64 0, .int .i64 0, .int .i64 0, .int .i64 0, .int .i64 0, .int .i64 0, .slice none 0 0] (by (repeat' (with_reducible first | assumption | (refine Row.at _ _ ?_; (simp; done)) | refine Row.alloc ?_ _ | refine Row.drew ?_ | refine Row.drewN ?_ _ | refine Row.other ?_ (by first | (simp; done) | (simp; omega) | omega) _ | refine Row.up ?_ (by assumption) | refine Row.chg ?_ (by assumption) (by first | (simp; done) | (simp; omega))))) infoItem hCs rfl hC1 ?_); intro w4 hr4 hc4; have HU4 := Lib.hid (show Up wo w4 from ((Chg.of_up (S := []) (show Up wo _ by (repeat' (first | (with_reducible first | exact Up.refl _ | assumption | refine Up.alloc ?_ _ | refine Up.drew ?_ | refine Up.drewN ?_ _ | refine Up.setCell ?_ ?_ _ | refine Up.call ?_ (by assumption)) | go_size)))).call hc4 (fun k hk => Or.inr (by simp at hk; omega))).up); have z4 := HU4.out.size; have lr4 := hr4.lt; have HR4 := Lib.hid hr4; have y1 := hr4.cell 1 HCF.out.1; have y7 := hr4.cell 7 HCF.out.2.1; have y12 := hr4.cell 12 HCF.out.2.2.1; have y21 := hr4.cell 21 HCF.out.2.2.2; clear hr4 hc4))
        go_ret
        exact ⟨by rw [HQ.out]; rfl, HUR.out.call (HU4.out.call (by (repeat' (first | (with_reducible first | exact Up.refl _ | assumption | refine Up.alloc ?_ _ | refine Up.drew ?_ | refine Up.drewN ?_ _ | refine Up.setCell ?_ ?_ _ | refine Up.call ?_ (by assumption)) | go_size))))⟩
      have d1 : decide ((3000 : Int) < (bl : Int)) = false := decide_eq_false (by omega)
      have b1 : bl ≤ 3000 := by omega
      clear h1
      by_cases h2 : 20 < cl
      · have d2 : decide ((20 : Int) < (cl : Int)) = true := decide_eq_true (by omega)
        have HQ := Lib.hid (show pageL its = false by
          rw [HQ0.out]
          refine all_missL HXK.out ?_
          rw [HITL.out, decide_eq_false (show ¬ cl ≤ 20 by omega)]
          simp)
        clear h2
        go_wp2_with (first
          | ((refine at_op (.load 50 (.tmp 20)) rfl ?_); (refine wpList_load_mid rfl 50 (.tmp 20) rfl g (o + i * 22) (by first | rfl | simp) C _ HRG.out Tryz.underlying50 rfl HINF.out ?_))
          | ((refine at_op (.store 50 (.tmp 4) (.tmp 21)) rfl ?_); (refine wpList_store_Row rfl 50 (.tmp 4) (.tmp 21) rfl wo.heap.size C.toArray rfl rfl #[.int .i64 0, .slice none 0 0, .int .i64 0, .int .i64 0, .int .i64 0, .int .i64 0, .int .i64 0, .slice none 0 0, .int .i64 0, .int .i64 0, .int .i64 0, .int .i64 0, .slice none 0 0, .int .i64 0, .int .i64 0, .int .i64 0, .int .i64 0, .int .i64 0, .int .i64 0, .int .i64 0, .int .i64 0, .slice none 0 0] (by (repeat' (with_reducible first | assumption | (refine Row.at _ _ ?_; (simp; done)) | refine Row.alloc ?_ _ | refine Row.drew ?_ | refine Row.drewN ?_ _ | refine Row.other ?_ (by first | (simp; done) | (simp; omega) | omega) _ | refine Row.up ?_ (by assumption) | refine Row.chg ?_ (by assumption) (by first | (simp; done) | (simp; omega))))) infoItem hCs rfl hC1 ?_); intro w4 hr4 hc4; have HU4 := Lib.hid (show Up wo w4 from ((Chg.of_up (S := []) (show Up wo _ by (repeat' (first | (with_reducible first | exact Up.refl _ | assumption | refine Up.alloc ?_ _ | refine Up.drew ?_ | refine Up.drewN ?_ _ | refine Up.setCell ?_ ?_ _ | refine Up.call ?_ (by assumption)) | go_size)))).call hc4 (fun k hk => Or.inr (by simp at hk; omega))).up); have z4 := HU4.out.size; have lr4 := hr4.lt; have HR4 := Lib.hid hr4; have y1 := hr4.cell 1 HCF.out.1; have y7 := hr4.cell 7 HCF.out.2.1; have y12 := hr4.cell 12 HCF.out.2.2.1; have y21 := hr4.cell 21 HCF.out.2.2.2; clear hr4 hc4))
        go_ret
        exact ⟨by rw [HQ.out]; rfl, HUR.out.call (HU4.out.call (by (repeat' (first | (with_reducible first | exact Up.refl _ | assumption | refine Up.alloc ?_ _ | refine Up.drew ?_ | refine Up.drewN ?_ _ | refine Up.setCell ?_ ?_ _ | refine Up.call ?_ (by assumption)) | go_size))))⟩
      have d2 : decide ((20 : Int) < (cl : Int)) = false := decide_eq_false (by omega)
      have b2 : cl ≤ 20 := by omega
      clear h2
      by_cases h3 : 50 < dl
      · have d3 : decide ((50 : Int) < (dl : Int)) = true := decide_eq_true (by omega)
        have HQ := Lib.hid (show pageL its = false by
          rw [HQ0.out]
          refine all_missL HXK.out ?_
          rw [HITL.out, decide_eq_false (show ¬ dl ≤ 50 by omega)]
          simp)
        clear h3
        go_wp2_with (first
          | ((refine at_op (.load 50 (.tmp 20)) rfl ?_); (refine wpList_load_mid rfl 50 (.tmp 20) rfl g (o + i * 22) (by first | rfl | simp) C _ HRG.out Tryz.underlying50 rfl HINF.out ?_))
          | ((refine at_op (.store 50 (.tmp 4) (.tmp 21)) rfl ?_); (refine wpList_store_Row rfl 50 (.tmp 4) (.tmp 21) rfl wo.heap.size C.toArray rfl rfl #[.int .i64 0, .slice none 0 0, .int .i64 0, .int .i64 0, .int .i64 0, .int .i64 0, .int .i64 0, .slice none 0 0, .int .i64 0, .int .i64 0, .int .i64 0, .int .i64 0, .slice none 0 0, .int .i64 0, .int .i64 0, .int .i64 0, .int .i64 0, .int .i64 0, .int .i64 0, .int .i64 0, .int .i64 0, .slice none 0 0] (by (repeat' (with_reducible first | assumption | (refine Row.at _ _ ?_; (simp; done)) | refine Row.alloc ?_ _ | refine Row.drew ?_ | refine Row.drewN ?_ _ | refine Row.other ?_ (by first | (simp; done) | (simp; omega) | omega) _ | refine Row.up ?_ (by assumption) | refine Row.chg ?_ (by assumption) (by first | (simp; done) | (simp; omega))))) infoItem hCs rfl hC1 ?_); intro w4 hr4 hc4; have HU4 := Lib.hid (show Up wo w4 from ((Chg.of_up (S := []) (show Up wo _ by (repeat' (first | (with_reducible first | exact Up.refl _ | assumption | refine Up.alloc ?_ _ | refine Up.drew ?_ | refine Up.drewN ?_ _ | refine Up.setCell ?_ ?_ _ | refine Up.call ?_ (by assumption)) | go_size)))).call hc4 (fun k hk => Or.inr (by simp at hk; omega))).up); have z4 := HU4.out.size; have lr4 := hr4.lt; have HR4 := Lib.hid hr4; have y1 := hr4.cell 1 HCF.out.1; have y7 := hr4.cell 7 HCF.out.2.1; have y12 := hr4.cell 12 HCF.out.2.2.1; have y21 := hr4.cell 21 HCF.out.2.2.2; clear hr4 hc4))
        go_ret
        exact ⟨by rw [HQ.out]; rfl, HUR.out.call (HU4.out.call (by (repeat' (first | (with_reducible first | exact Up.refl _ | assumption | refine Up.alloc ?_ _ | refine Up.drew ?_ | refine Up.drewN ?_ _ | refine Up.setCell ?_ ?_ _ | refine Up.call ?_ (by assumption)) | go_size))))⟩
      have d3 : decide ((50 : Int) < (dl : Int)) = false := decide_eq_false (by omega)
      have b3 : dl ≤ 50 := by omega
      clear h3
      go_wp2_with (first
        | ((refine at_op (.load 50 (.tmp 20)) rfl ?_); (refine wpList_load_mid rfl 50 (.tmp 20) rfl g (o + i * 22) (by first | rfl | simp) C _ HRG.out Tryz.underlying50 rfl HINF.out ?_))
        | ((refine at_op (.store 50 (.tmp 4) (.tmp 21)) rfl ?_); (refine wpList_store_Row rfl 50 (.tmp 4) (.tmp 21) rfl wo.heap.size C.toArray rfl rfl #[.int .i64 0, .slice none 0 0, .int .i64 0, .int .i64 0, .int .i64 0, .int .i64 0, .int .i64 0, .slice none 0 0, .int .i64 0, .int .i64 0, .int .i64 0, .int .i64 0, .slice none 0 0, .int .i64 0, .int .i64 0, .int .i64 0, .int .i64 0, .int .i64 0, .int .i64 0, .int .i64 0, .int .i64 0, .slice none 0 0] (by (repeat' (with_reducible first | assumption | (refine Row.at _ _ ?_; (simp; done)) | refine Row.alloc ?_ _ | refine Row.drew ?_ | refine Row.drewN ?_ _ | refine Row.other ?_ (by first | (simp; done) | (simp; omega) | omega) _ | refine Row.up ?_ (by assumption) | refine Row.chg ?_ (by assumption) (by first | (simp; done) | (simp; omega))))) infoItem hCs rfl hC1 ?_); intro w4 hr4 hc4; have HU4 := Lib.hid (show Up wo w4 from ((Chg.of_up (S := []) (show Up wo _ by (repeat' (first | (with_reducible first | exact Up.refl _ | assumption | refine Up.alloc ?_ _ | refine Up.drew ?_ | refine Up.drewN ?_ _ | refine Up.setCell ?_ ?_ _ | refine Up.call ?_ (by assumption)) | go_size)))).call hc4 (fun k hk => Or.inr (by simp at hk; omega))).up); have z4 := HU4.out.size; have lr4 := hr4.lt; have HR4 := Lib.hid hr4; have y1 := hr4.cell 1 HCF.out.1; have y7 := hr4.cell 7 HCF.out.2.1; have y12 := hr4.cell 12 HCF.out.2.2.1; have y21 := hr4.cell 21 HCF.out.2.2.2; clear hr4 hc4))
      go_loopw [5] (fun s5 wr => ∃ j : Nat, j ≤ cl ∧ s5 = .int .i64 j ∧ Hid ((cs.take j).all (fun c => decide (c.l.length ≤ 100)) = true) ∧ Hid (Up w4 wr)) (fun s5 _ => cl - (intOf s5).toNat)
      case atStart => exact ⟨0, Nat.zero_le _, rfl, Lib.hid (by simp), Lib.hid (Up.refl _)⟩
      case round =>
        obtain ⟨j, hj, rfl, HNJ, HUJ⟩ := hrel
        clear y1 y12 y21
        replace y7 := (HR4.out.up HUJ.out).cell 7 HCF.out.2.1
        have lyr := (HR4.out.up HUJ.out).lt
        have HUV := Lib.hid (HUR.out.call (HU4.out.call HUJ.out))
        have zv := HUV.out.size
        by_cases hlj : j < cl
        · have dlj : decide (j < cl) = true := decide_eq_true hlj
          obtain ⟨x, hx⟩ : ∃ x, cs[j]? = some x := ⟨_, List.getElem?_eq_getElem (by have := HLS.out.sl.2.2.1; omega)⟩
          obtain ⟨g1, o1, ha, hg1, hc1⟩ := HLS.out.sl.2.2.2.2 (by omega)
          subst ha
          have sx := HLS.out.sv x (List.mem_of_getElem? hx)
          obtain ⟨vx, lx1, ex⟩ := x
          obtain ⟨qa, qc, hv⟩ := Pt.segV_len sx
          have hv2 : vx = .slice qa lx1.length qc := hv
          subst hv2
          obtain ⟨M, hM⟩ : ∃ M, lx1.length = M := ⟨_, rfl⟩
          have c0 : wr.cell? ⟨g1, o1 + j * 2, none⟩ = some (.slice qa M qc) := (HUV.out.cells.1 g1 _ hg1).trans (by rw [← hM]; exact hc1 j _ 0 _ hx rfl)
          have lg1 : g1 < wr.heap.size := Nat.lt_of_lt_of_le hg1 zv
          have HXJ := Lib.hid hx
          have HM := Lib.hid hM
          clear hc1 hx sx hM hv
          by_cases hm : 100 < M
          · have dm : decide ((100 : Int) < (M : Int)) = true := decide_eq_true (by omega)
            have HQ := Lib.hid (show pageL its = false by
              rw [HQ0.out]
              refine all_missL HXK.out ?_
              have h3 : cs.all (fun c => decide (c.l.length ≤ 100)) = false := all_missL HXJ.out (decide_eq_false (by show ¬ lx1.length ≤ 100; have := HM.out; omega))
              rw [HITL.out, h3]
              simp)
            clear hm
            go_wp2
            go_ret
            exact ⟨by rw [HQ.out]; rfl, HUV.out.call (by (repeat' (first | (with_reducible first | exact Up.refl _ | assumption | refine Up.alloc ?_ _ | refine Up.drew ?_ | refine Up.drewN ?_ _ | refine Up.setCell ?_ ?_ _ | refine Up.call ?_ (by assumption)) | go_size)))⟩
          · have dm : decide ((100 : Int) < (M : Int)) = false := decide_eq_false (by omega)
            have HQ := Lib.hid (all_stepL HXJ.out HNJ.out (decide_eq_true (show lx1.length ≤ 100 by have := HM.out; omega)))
            clear hm
            go_wp2
            go_roundw
            case measure => simp [intOf]; omega
            case rel => exact ⟨j + 1, by omega, by go_num, HQ, Lib.hid (HUJ.out.call (by (repeat' (first | (with_reducible first | exact Up.refl _ | assumption | refine Up.alloc ?_ _ | refine Up.drew ?_ | refine Up.drewN ?_ _ | refine Up.setCell ?_ ?_ _ | refine Up.call ?_ (by assumption)) | go_size))))⟩
        · have dlj : decide (j < cl) = false := decide_eq_false hlj
          obtain rfl : cl = j := by omega
          have HQ := Lib.hid (all_stepL HXK.out HNO.out (show itL _ = true by
            rw [HITL.out]
            have h3 := HNJ.out
            rw [List.take_of_length_le (by have := HLS.out.sl.2.2.1; omega)] at h3
            rw [h3, decide_eq_true b0, decide_eq_true b1, decide_eq_true b2, decide_eq_true b3]
            rfl))
          go_wp2
          go_roundw
          case measure => simp [intOf]; omega
          case rel => exact ⟨i + 1, by omega, by go_num, HQ, Lib.hid (HUP.out.call (HU4.out.call (HUJ.out.call (by (repeat' (first | (with_reducible first | exact Up.refl _ | assumption | refine Up.alloc ?_ _ | refine Up.drew ?_ | refine Up.drewN ?_ _ | refine Up.setCell ?_ ?_ _ | refine Up.call ?_ (by assumption)) | go_size))))))⟩
    · have dlt : decide (i < n) = false := decide_eq_false hlt
      obtain rfl : n = i := by omega
      have HQ := Lib.hid (show pageL its = true by
        rw [HQ0.out]
        have := HNO.out
        rwa [List.take_of_length_le (by have := HN.out; omega)] at this)
      go_wp2
      go_ret
      exact ⟨by rw [HQ.out]; rfl, HUR.out.call (by (repeat' (first | (with_reducible first | exact Up.refl _ | assumption | refine Up.alloc ?_ _ | refine Up.drew ?_ | refine Up.drewN ?_ _ | refine Up.setCell ?_ ?_ _ | refine Up.call ?_ (by assumption)) | go_size)))⟩

end Go.Proofs.YtpellcdggaeppaaGreatDoor.Dr
end

section
namespace Go.Proofs.YtpellcdggaeppaaGreatDoor.Dr
open Go.ChangeShapes Go.WideShapes Go.ChangeAt Go.RowKit Go.Shelf
open Go.Proofs.YtpellcdggaeppaaGreatDoor.Pob
open Go.Proofs.YtpellcdggaeppaaGreatDoor.MatM (M6)
open Go.Proofs.YtpellcdggaeppaaGreatDoor.PathM (Seg)
open Go.Proofs.YtpellcdggaeppaaGreatDoor.Path (SegV)
open Go.Proofs.YtpellcdggaeppaaGreatDoor.Pt (pageR raw_up)
set_option linter.unusedVariables false
set_option linter.unusedSimpArgs false

theorem content_any (W H : Int) (its : List Pt.Item) (a : Option Addr) (n c : Nat) (w : World) (h : Sl 22 Pt.Item.cells w a n c its) (hs : ∀ i ∈ its, i.is w) (hT : Font.Tab w) (hP : PTab w) :
    Calls Tryz.prog 10 #[.agg #[.int .i64 W, .int .i64 H, .slice a n c]] w fun e w' => ∃ bv fv E, e = .returned (.tuple #[bv, fv, .int .i64 E]) ∧ Hid (CRes w (its.map Pt.Item.dat) (pageR W H its) w' bv fv E) ∧ Up w w' := by
  cases hr : pageR W H its with
  | true => exact content_ok W H its a n c w h hs hT hP hr
  | false =>
    refine (content_bad W H its a n c w h hs hT hr).mono ?_
    rintro e w' ⟨rfl, hu⟩
    exact ⟨_, _, _, rfl, Lib.hid ⟨rfl, rfl, rfl⟩, hu⟩
/-- string(..) of bytes of one's own -/
theorem owns_conv {w : World} {B : Nat} {v : Value} {l : List UInt8} (h : w.ownsRow B 5 1 v l.length (Lib.byteCells l)) : (convert 27 9 v).run Tryz.prog w = .ok (.string ⟨l.toArray⟩) w := by
  rcases h.2 with ⟨rfl, h0⟩ | ⟨g, cap, cur, rfl, hb, hg, hn, hm, hcs, htk⟩
  · have e := List.eq_nil_of_length_eq_zero h0
    subst e
    show (convert 27 9 (.slice none 0 0)).run Tryz.prog w = _
    rw [run_convert_bytes_string w 27 9 5 none 0 0 Tryz.underlying27 Tryz.underlying5 Tryz.underlying9]
    rfl
  · refine run_convert_bytes_back w 27 9 5 ⟨g, 0, none⟩ cap l Tryz.underlying27 Tryz.underlying5 Tryz.underlying9 (fun j hj => ?_)
    exact h.cells (g := g) rfl j _ (by simp [Lib.byteCells, hj])
/-- .. of the first of them -/
theorem owns_conv_take {w : World} {B g cap n : Nat} {l : List UInt8} (h : w.ownsRow B 5 1 (.slice (some ⟨g, 0, none⟩) n cap) l.length (Lib.byteCells l)) (k : Nat) (hk : k ≤ l.length) : (convert 27 9 (.slice (some ⟨g, 0, none⟩) k cap)).run Tryz.prog w = .ok (.string ⟨(l.take k).toArray⟩) w := by
  have e : (l.take k).length = k := by rw [List.length_take]; omega
  have h2 := run_convert_bytes_back w 27 9 5 ⟨g, 0, none⟩ cap (l.take k) Tryz.underlying27 Tryz.underlying5 Tryz.underlying9 (fun j hj => ?_)
  · rw [e] at h2
    exact h2
  · rw [e] at hj
    rw [h.cells (g := g) rfl j (.int .u8 ((l.getD j 0).toNat : Int)) (by simp [Lib.byteCells, List.getD, show j < l.length by omega])]
    simp [List.getD, show j < l.length by omega]
/-- what is written stays -/
theorem boundS_pre (x : St) (l : List ClD) : x.out <+: (boundS x l).out := by
  rw [bound_eq x l _ _ rfl rfl]
  simp only [List.append_assoc]
  exact List.prefix_append _ _
theorem itemY_pre (y : St) (d : Pt.Dat) : y.out <+: (itemY y d).out := by
  unfold itemY
  simp only [fillS_eq, strokeS_eq]
  by_cases h3 : d.k = 3
  · rw [if_pos h3]
    simp only [pathS, penS, List.append_assoc]
    exact List.prefix_append _ _
  · rw [if_neg h3]
    by_cases h4 : d.k = 4
    · rw [if_pos h4]
      simp only [textS, List.append_assoc]
      exact List.prefix_append _ _
    · rw [if_neg h4]
      by_cases h1 : d.k = 1
      · rw [if_pos h1]
        simp only [pathS, List.append_assoc]
        exact List.prefix_append _ _
      · rw [if_neg h1]
        simp only [pathS, List.append_assoc]
        exact List.prefix_append _ _
theorem itemS_pre (x : St) (d : Pt.Dat) : x.out <+: (itemS x d).out := (boundS_pre x d.cl).trans (itemY_pre _ d)
theorem runS_pre : ∀ (l : List Pt.Dat) (x y : St), runS x l = some y → x.out <+: y.out
  | [], x, y, h => by injection h with h; subst h; exact List.prefix_refl _
  | d :: l, x, y, h => by
    rw [runS] at h
    split at h
    · cases h
    · exact (itemS_pre x d).trans (runS_pre l _ y h)
theorem runS_cl : ∀ (l : List Pt.Dat) (x y : St), runS x l = some y → y.cl = match l.getLast? with | none => x.cl | some d => d.cl
  | [], x, y, h => by injection h with h; subst h; rfl
  | d :: l, x, y, h => by
    rw [runS] at h
    split at h
    · cases h
    · have ih := runS_cl l _ y h
      rw [ih, itemS_cl]
      cases l with
      | nil => rfl
      | cons e l =>
        rw [List.getLast?_cons_cons]
        cases hq : (e :: l).getLast? with
        | none => simp at hq
        | some q => rfl
theorem runS_append : ∀ (l m : List Pt.Dat) (x y : St), runS x (l ++ m) = some y → ∃ z, runS x l = some z ∧ runS z m = some y
  | [], m, x, y, h => ⟨x, rfl, h⟩
  | d :: l, m, x, y, h => by
    rw [List.cons_append, runS] at h
    split at h
    · cases h
    · rename_i hb
      obtain ⟨z, h1, h2⟩ := runS_append l m _ y h
      exact ⟨z, by rw [runS, if_neg hb]; exact h1, h2⟩
theorem contS_some {l : List Pt.Dat} {o : List UInt8} {fs : List Int} (h : contS l = some (o, fs)) : ∃ x, runS start l = some x ∧ endS x = o ∧ x.fs = fs := by
  unfold contS at h
  cases h1 : runS start l with
  | none => rw [h1] at h; cases h
  | some x =>
    rw [h1] at h
    have h2 : (if 1048576 < (endS x).length then none else some (endS x, x.fs)) = some (o, fs) := h
    split at h2
    · cases h2
    · injection h2 with h2
      injection h2 with h3 h4
      exact ⟨x, rfl, h3, h4⟩
/-- P20.1: the content of a page's first items is the beginning of its content, but for a last Q -/
theorem ahead_law (l : List Pt.Dat) (k : Nat) (hk : k ≤ l.length) (b a : List UInt8) (fb fa : List Int) (hb : contS l = some (b, fb)) (ha : contS (l.take k) = some (a, fa)) :
    ∃ s, a.length = s + (if (0 < k ∧ ∀ d, l[k - 1]? = some d → d.cl ≠ []) then 2 else 0) ∧ s ≤ b.length ∧ b.take s = a.take s := by
  obtain ⟨y, hy, rfl, -⟩ := contS_some hb
  obtain ⟨x, hx, rfl, -⟩ := contS_some ha
  rw [← List.take_append_drop k l] at hy
  obtain ⟨z, hz, hz2⟩ := runS_append _ _ _ _ hy
  rw [hx] at hz
  injection hz with hz
  subst hz
  have hp := runS_pre _ _ _ hz2
  have hc := runS_cl _ _ _ hx
  have hcl : (0 < k ∧ ∀ d, l[k - 1]? = some d → d.cl ≠ []) ↔ x.cl ≠ [] := by
    rw [hc]
    cases hl : (l.take k).getLast? with
    | none =>
      have e := List.getLast?_eq_none_iff.1 hl
      have e2 := congrArg List.length e
      rw [List.length_take, List.length_nil] at e2
      constructor
      · intro h; omega
      · intro h; exact absurd rfl h
    | some d =>
      have e : l[k - 1]? = some d ∧ 0 < k := by
        have h0 : l.take k ≠ [] := fun e => by rw [e] at hl; cases hl
        have hk0 : 0 < k := by
          cases k with
          | zero => simp at h0
          | succ k => omega
        rw [List.getLast?_eq_getElem?, List.length_take, Nat.min_eq_left hk, List.getElem?_take] at hl
        rw [if_pos (by omega)] at hl
        exact ⟨hl, hk0⟩
      constructor
      · intro h; exact h.2 d e.1
      · intro h
        refine ⟨e.2, fun d2 h2 => ?_⟩
        rw [e.1] at h2
        injection h2 with h2
        subst h2
        exact h
  refine ⟨x.out.length, ?_, ?_, ?_⟩
  · unfold endS
    rw [List.length_append]
    by_cases h : x.cl = []
    · rw [if_pos h, if_neg (fun h2 => (hcl.1 h2) h)]; simp
    · rw [if_neg h, if_pos (hcl.2 h)]; simp
  · have h1 := hp.length_le
    unfold endS
    rw [List.length_append]
    omega
  · unfold endS
    have h1 := List.prefix_iff_eq_take.1 hp
    rw [List.take_append_of_le_length hp.length_le, List.take_append_of_le_length (Nat.le_refl _), List.take_length, ← h1]
end Go.Proofs.YtpellcdggaeppaaGreatDoor.Dr
end

section
namespace Go.Proofs.YtpellcdggaeppaaGreatDoor.Dr
open Go.ChangeShapes Go.WideShapes Go.ChangeAt Go.RowKit Go.Shelf
open Go.Proofs.YtpellcdggaeppaaGreatDoor.Pob
open Go.Proofs.YtpellcdggaeppaaGreatDoor.MatM (M6)
open Go.Proofs.YtpellcdggaeppaaGreatDoor.PathM (Seg)
open Go.Proofs.YtpellcdggaeppaaGreatDoor.Path (SegV)
open Go.Proofs.YtpellcdggaeppaaGreatDoor.Pt (pageR raw_up)
set_option linter.unusedVariables false
set_option linter.unusedSimpArgs false

theorem prP0 : prP 0 = [48] := by
  unfold prP prM fracP
  rw [if_neg (by decide)]
  simp [decL_small]
/-- a page with one point -/
def dat0 : Pt.Dat := ⟨1, [⟨1, (0, 0), (0, 0), (0, 0)⟩], (1, 0, 0, 0, 0), [], (0, 0, 0, 0), [], 0, 0, ⟨0, 0, 0, 0, 0, 0⟩, []⟩
theorem item0 : itemS start dat0 = ⟨[48, 32, 48, 32, 109, 10, 102, 10], first, first, [], []⟩ := by
  have hb : boundS start [] = ⟨[], first, first, [], []⟩ := by
    rw [bound_eq start [] false false (by simp [start]) (by simp [start])]
    rfl
  rw [itemS_Y]
  show itemY (boundS start []) dat0 = _
  rw [hb]
  unfold itemY
  rw [if_neg (show ¬ dat0.k = 3 by decide)]
  show (if dat0.k = 4 then _ else if dat0.k = 1 then pathS (fillS _ (colOf dat0)) dat0.l [102] else _) = _
  rw [if_neg (show ¬ dat0.k = 4 by decide), if_pos (show dat0.k = 1 from rfl), fillS_eq]
  simp [pathS, dat0, colOf, first, pathB, segB, lineB, numsB, prP0]
theorem cont0 : contS [dat0] = some ([48, 32, 48, 32, 109, 10, 102, 10], []) := by
  unfold contS
  have h : runS start [dat0] = some ⟨[48, 32, 48, 32, 109, 10, 102, 10], first, first, [], []⟩ := by
    rw [runS, item0, if_neg (by decide)]
    rfl
  rw [h]
  rfl
def it0 (g : Nat) : Pt.Item := ⟨1, .slice (some ⟨g, 0, none⟩) 1 1, [⟨1, (0, 0), (0, 0), (0, 0)⟩], 1, 0, 0, 0, 0, .slice none 0 0, [], 0, 0, 0, 0, .slice none 0 0, [], 0, 0, ⟨0, 0, 0, 0, 0, 0⟩, .slice none 0 0, []⟩
theorem page0 (g : Nat) : pageR 65536 65536 [it0 g] = true := by kernel_rfl

set_option maxRecDepth 8000 in
set_option maxHeartbeats 4000000 in
theorem answers_calls (w : World) (hT : Font.Tab w) (hP : PTab w) : Calls Tryz.prog 8 #[] w fun e w' => e = .returned (.bool true) ∧ Up w w' := by
  have HC := Lib.hid (fun (W : World) (hu : Up w W) (g : Nat) (hg : g < W.heap.size) (hsg : Path.SegV W (.slice (some ⟨g, 0, none⟩) 1 1) [⟨1, (0, 0), (0, 0), (0, 0)⟩]) (b : Nat) (hb : b < W.heap.size) (hc : ∀ (j : Nat) (u : Value), (it0 g).cells[j]? = some u → W.cell? ⟨b, j, none⟩ = some u) =>
    show Calls Tryz.prog 10 #[.agg #[.int .i64 65536, .int .i64 65536, .slice (some ⟨b, 0, none⟩) 1 1]] W (fun e w' => ∃ bv fv, e = .returned (.tuple #[bv, fv, .int .i64 0]) ∧ (convert 27 9 bv).run Tryz.prog w' = .ok (.string ⟨#[48, 32, 48, 32, 109, 10, 102, 10]⟩) w' ∧ Up W w') from by
      refine (content_any 65536 65536 [it0 g] (some ⟨b, 0, none⟩) 1 1 W ⟨Nat.le_refl _, by decide, rfl, (fun h => by cases h), fun _ => ⟨b, 0, rfl, hb, fun i s j u hs hj => ?_⟩⟩ (fun i hi => ?_) (hT.up hu) (hP.up hu)).mono ?_
      · match i, hs with
        | 0, hs => injection hs with hs; subst hs; rw [show 0 + 0 * 22 + j = j by omega]; exact hc j u hj
        | i + 1, hs => simp at hs
      · obtain rfl := List.mem_singleton.1 hi
        exact ⟨hsg, ⟨none, 0, 0, rfl, ⟨Nat.le_refl _, by decide, rfl, fun _ => ⟨rfl, rfl⟩, fun h => absurd h (by decide)⟩, fun c hc => by cases hc⟩, ints_nil _, ⟨none, 0, rfl, Nat.le_refl _, by decide, fun _ => ⟨rfl, rfl⟩, fun h => absurd h (Nat.lt_irrefl 0), fun z hz => by cases hz⟩⟩
      · rintro e w' ⟨bv, fv, E, rfl, hr, hu2⟩
        have h2 := hr.out
        unfold CRes at h2
        rw [page0, if_pos rfl] at h2
        have e1 : contS ([it0 g].map Pt.Item.dat) = some ([48, 32, 48, 32, 109, 10, 102, 10], []) := cont0
        rw [e1] at h2
        obtain ⟨rfl, h3, -⟩ := h2
        exact ⟨bv, fv, rfl, owns_conv h3, hu2⟩)
  clear hT hP
  go_enter Tryz.func8, Tryz.ntmps8
  go_wp2_with (go_at_call 10; ((refine Calls.mono (HC.out _ ?_ w.heap.size ?_ ?_ (w.heap.size + 1) ?_ ?_) ?_); (focus ((repeat' (first | (with_reducible first | exact Up.refl _ | assumption | refine Up.alloc ?_ _ | refine Up.drew ?_ | refine Up.drewN ?_ _ | refine Up.setCell ?_ ?_ _ | refine Up.call ?_ (by assumption)) | go_size)))); (focus (simp; try omega)); (focus (exact Or.inr ⟨w.heap.size, 0, 1, rfl, by decide, by simp; try omega, (fun i s j u hs hj => by (match i, hs with | 0, hs => (injection hs with hs; subst hs; rw [show 0 + 0 * 7 + j = j by omega]; exact (show Row _ w.heap.size #[.int .i64 1, .int .i64 0, .int .i64 0, .int .i64 0, .int .i64 0, .int .i64 0, .int .i64 0] by (repeat' (with_reducible first | assumption | (refine Row.at _ _ ?_; (simp; done)) | refine Row.alloc ?_ _ | refine Row.drew ?_ | refine Row.drewN ?_ _ | refine Row.other ?_ (by first | (simp; done) | (simp; omega) | omega) _ | refine Row.up ?_ (by assumption) | refine Row.chg ?_ (by assumption) (by first | (simp; done) | (simp; omega))))).cell j (by rw [List.getElem?_toArray]; exact hj)) | i + 1, hs => simp at hs)), by decide⟩)); (focus (simp; try omega)); (focus (intro j u hj; exact (show Row _ (w.heap.size + 1) #[.int .i64 1, .slice (some ⟨w.heap.size, 0, none⟩) 1 1, .int .i64 1, .int .i64 0, .int .i64 0, .int .i64 0, .int .i64 0, .slice none 0 0, .int .i64 0, .int .i64 0, .int .i64 0, .int .i64 0, .slice none 0 0, .int .i64 0, .int .i64 0, .int .i64 0, .int .i64 0, .int .i64 0, .int .i64 0, .int .i64 0, .int .i64 0, .slice none 0 0] by (repeat' (with_reducible first | assumption | (refine Row.at _ _ ?_; (simp; done)) | refine Row.alloc ?_ _ | refine Row.drew ?_ | refine Row.drewN ?_ _ | refine Row.other ?_ (by first | (simp; done) | (simp; omega) | omega) _ | refine Row.up ?_ (by assumption) | refine Row.chg ?_ (by assumption) (by first | (simp; done) | (simp; omega))))).cell j (by rw [List.getElem?_toArray]; exact hj))); rintro e w1 ⟨bv, fv, rfl, cv, hu1⟩))
  go_ret
  exact ⟨rfl, by (repeat' (first | (with_reducible first | exact Up.refl _ | assumption | refine Up.alloc ?_ _ | refine Up.drew ?_ | refine Up.drewN ?_ _ | refine Up.setCell ?_ ?_ _ | refine Up.call ?_ (by assumption)) | go_size))⟩
end Go.Proofs.YtpellcdggaeppaaGreatDoor.Dr
end

section
namespace Go.Proofs.YtpellcdggaeppaaGreatDoor.Dr
open List renaming getElem_toArray → lga, getElem_cons_zero → lgz, getElem_cons_succ → lgs, setIfInBounds_toArray → lsa, set_cons_zero → lsz, set_cons_succ → lss
open Go.ChangeShapes Go.WideShapes Go.ChangeAt Go.RowKit Go.Shelf
open Go.Proofs.YtpellcdggaeppaaGreatDoor.Pob
open Go.Proofs.YtpellcdggaeppaaGreatDoor.MatM (M6)
open Go.Proofs.YtpellcdggaeppaaGreatDoor.PathM (Seg)
open Go.Proofs.YtpellcdggaeppaaGreatDoor.Path (SegV)
open Go.Proofs.YtpellcdggaeppaaGreatDoor.Pt (pageR raw_up)
set_option linter.unusedVariables false
set_option linter.unusedSimpArgs false

theorem cres_zero {w0 w : World} {l : List Pt.Dat} {ok : Bool} {bv fv : Value} (h : CRes w0 l ok w bv fv 0) : ∃ o fs, contS l = some (o, fs) ∧ w.ownsRow w0.heap.size 5 1 bv o.length (Lib.byteCells o) := by
  unfold CRes at h
  split at h
  · split at h
    · exact absurd h.2.2 (by decide)
    · rename_i o fs e
      exact ⟨o, fs, e, h.2.1⟩
  · exact absurd h.2.2 (by decide)
theorem owns_val {w : World} {B : Nat} {v : Value} {l : List UInt8} (h : w.ownsRow B 5 1 v l.length (Lib.byteCells l)) : ∃ ao cap, v = .slice ao l.length cap ∧ l.length ≤ cap ∧ ∀ (k : Nat), k ≤ l.length → ∀ W, Up w W → (convert 27 9 (.slice ao k cap)).run Tryz.prog W = .ok (.string ⟨(l.take k).toArray⟩) W := by
  rcases id h.2 with ⟨rfl, h0⟩ | ⟨g, cap, cur, rfl, hb, hg, hn, hm, hcs, htk⟩
  · have e := List.eq_nil_of_length_eq_zero h0
    subst e
    refine ⟨none, 0, rfl, Nat.le_refl _, fun k hk W hu => ?_⟩
    obtain rfl : k = 0 := by simpa using hk
    rw [run_convert_bytes_string W 27 9 5 none 0 0 Tryz.underlying27 Tryz.underlying5 Tryz.underlying9]
    rfl
  · exact ⟨_, cap, rfl, hn, fun k hk W hu => owns_conv_take (raw_up h hu) k hk⟩
theorem sl_take {w : World} {a : Option Addr} {n c k : Nat} {its : List Pt.Item} (h : Sl 22 Pt.Item.cells w a n c its) (hk : k ≤ n) : Sl 22 Pt.Item.cells w a k c (its.take k) := by
  obtain ⟨h1, h2, h3, h4, h5⟩ := h
  refine ⟨by omega, h2, by rw [List.length_take]; omega, fun e => ⟨by have := (h4 e).1; omega, (h4 e).2⟩, fun h0 => ?_⟩
  obtain ⟨b, o, e, hb, hc⟩ := h5 (by omega)
  refine ⟨b, o, e, hb, fun i s j u hs hj => hc i s j u ?_ hj⟩
  rw [List.getElem?_take] at hs
  split at hs
  · exact hs
  · cases hs

set_option maxRecDepth 8000 in
set_option maxHeartbeats 4000000 in
theorem ahead_dark (W H : Int) (its : List Pt.Item) (a : Option Addr) (n c : Nat) (z : Int) (w : World) (h : Sl 22 Pt.Item.cells w a n c its) (hs : ∀ i ∈ its, i.is w) (hT : Font.Tab w) (hP : PTab w) (hl : pageL its = false) :
    Calls Tryz.prog 5 #[.agg #[.int .i64 W, .int .i64 H, .slice a n c], .int .u8 z] w fun e w' => e = .returned (.bool true) ∧ Up w w' := by
  have HA := Lib.hid (fun (V : World) (hu : Up w V) => answers_calls V (hT.up hu) (hP.up hu))
  have HL := Lib.hid (fun (V : World) (hu : Up w V) => show Calls _ _ _ V (fun e w' => e = .returned (.bool false) ∧ Up V w') from hl ▸ light_calls W H its a n c V (Pt.sl_up h hu) (fun i hi => (hs i hi).up hu))
  clear h hs hT hP hl
  go_enter Tryz.func5, Tryz.ntmps5
  go_wp2_with (first
    | (go_at_call 8; ((refine Calls.mono (HA.out _ ?_) ?_); (focus ((repeat' (first | (with_reducible first | exact Up.refl _ | assumption | refine Up.alloc ?_ _ | refine Up.drew ?_ | refine Up.drewN ?_ _ | refine Up.setCell ?_ ?_ _ | refine Up.call ?_ (by assumption)) | go_size)))); rintro e w1 ⟨rfl, hu1⟩; have RX1 : Row w1 w.heap.size #[.int .i64 W, .int .i64 H, .slice a n c] := Row.up (by (repeat' (with_reducible first | assumption | (refine Row.at _ _ ?_; (simp; done)) | refine Row.alloc ?_ _ | refine Row.drew ?_ | refine Row.drewN ?_ _ | refine Row.other ?_ (by first | (simp; done) | (simp; omega) | omega) _ | refine Row.up ?_ (by assumption) | refine Row.chg ?_ (by assumption) (by first | (simp; done) | (simp; omega))))) hu1; have q0 := RX1.cell 0 rfl; have q1 := RX1.cell 1 rfl; have q2 := RX1.cell 2 rfl; have lq := RX1.lt; have z1 := hu1.size; clear RX1))
    | (go_at_call 9; ((refine Calls.mono (HL.out _ ?_) ?_); (focus ((repeat' (first | (with_reducible first | exact Up.refl _ | assumption | refine Up.alloc ?_ _ | refine Up.drew ?_ | refine Up.drewN ?_ _ | refine Up.setCell ?_ ?_ _ | refine Up.call ?_ (by assumption)) | go_size)))); rintro e w2 ⟨rfl, hu2⟩; clear q0 q1 q2 lq)))
  go_ret
  exact ⟨rfl, by (repeat' (first | (with_reducible first | exact Up.refl _ | assumption | refine Up.alloc ?_ _ | refine Up.drew ?_ | refine Up.drewN ?_ _ | refine Up.setCell ?_ ?_ _ | refine Up.call ?_ (by assumption)) | go_size))⟩

set_option maxRecDepth 8000 in
set_option maxHeartbeats 4000000 in
theorem ahead_ok (W H : Int) (its : List Pt.Item) (a : Option Addr) (n c : Nat) (zn : Nat) (w : World) (h : Sl 22 Pt.Item.cells w a n c its) (hs : ∀ i ∈ its, i.is w) (hT : Font.Tab w) (hP : PTab w) (hl : pageL its = true) (hz : zn ≤ 255) :
    Calls Tryz.prog 5 #[.agg #[.int .i64 W, .int .i64 H, .slice a n c], .int .u8 zn] w fun e w' => e = .returned (.bool true) ∧ Up w w' := by
  have HA := Lib.hid (fun (V : World) (hu : Up w V) => answers_calls V (hT.up hu) (hP.up hu))
  have HL := Lib.hid (fun (V : World) (hu : Up w V) => show Calls _ _ _ V (fun e w' => e = .returned (.bool true) ∧ Up V w') from hl ▸ light_calls W H its a n c V (Pt.sl_up h hu) (fun i hi => (hs i hi).up hu))
  have HC := Lib.hid (fun (V : World) (hu : Up w V) => content_any W H its a n c V (Pt.sl_up h hu) (fun i hi => (hs i hi).up hu) (hT.up hu) (hP.up hu))
  have HCK := Lib.hid (fun (k : Nat) (hk : k ≤ n) (V : World) (hu : Up w V) => content_any W H (its.take k) a k c V (Pt.sl_up (sl_take h hk) hu) (fun i hi => (hs i (List.mem_of_mem_take hi)).up hu) (hT.up hu) (hP.up hu))
  have HCK0 := Lib.hid (fun (a' : Option Addr) (ha : a' = none → c = 0) (V : World) (hu : Up w V) => content_any W H [] a' 0 c V ⟨Nat.zero_le _, h.2.1, rfl, fun e => ⟨rfl, ha e⟩, fun h0 => absurd h0 (Nat.lt_irrefl 0)⟩ (fun i hi => by cases hi) (hT.up hu) (hP.up hu))
  have HS := Lib.hid h
  have HN := Lib.hid h.2.2.1
  have HIS := Lib.hid hs
  have hnc := h.1
  have hn9 : n ≤ 100 := by
    rw [← h.2.2.1]
    unfold pageL at hl
    rw [Bool.and_eq_true, decide_eq_true_eq] at hl
    exact hl.1
  clear h hs hT hP hl
  obtain ⟨K, hK⟩ : ∃ K, (if 0 < n then zn % (n + 1) else 0) = K := ⟨_, rfl⟩
  have hKn : K ≤ n := by
    rw [← hK]
    split
    · have := Nat.mod_lt zn (show 0 < n + 1 by omega); omega
    · omega
  have HKE := Lib.hid hK
  clear hK
  obtain ⟨bn, hbn⟩ : ∃ bn, decide (0 < n) = bn := ⟨_, rfl⟩
  have HBN := Lib.hid hbn
  go_enter Tryz.func5, Tryz.ntmps5
  go_upto_if 30 with (first
    | (go_at_call 8; ((refine Calls.mono (HA.out _ ?_) ?_); (focus ((repeat' (first | (with_reducible first | exact Up.refl _ | assumption | refine Up.alloc ?_ _ | refine Up.drew ?_ | refine Up.drewN ?_ _ | refine Up.setCell ?_ ?_ _ | refine Up.call ?_ (by assumption)) | go_size)))); rintro e w1 ⟨rfl, hu1⟩; have RX1 : Row w1 w.heap.size #[.int .i64 W, .int .i64 H, .slice a n c] := Row.up (by (repeat' (with_reducible first | assumption | (refine Row.at _ _ ?_; (simp; done)) | refine Row.alloc ?_ _ | refine Row.drew ?_ | refine Row.drewN ?_ _ | refine Row.other ?_ (by first | (simp; done) | (simp; omega) | omega) _ | refine Row.up ?_ (by assumption) | refine Row.chg ?_ (by assumption) (by first | (simp; done) | (simp; omega))))) hu1; have q0 := RX1.cell 0 rfl; have q1 := RX1.cell 1 rfl; have q2 := RX1.cell 2 rfl; have lq := RX1.lt; have z1 := hu1.size; have HR1 := Lib.hid RX1; clear RX1))
    | (go_at_call 9; ((refine Calls.mono (HL.out _ ?_) ?_); (focus ((repeat' (first | (with_reducible first | exact Up.refl _ | assumption | refine Up.alloc ?_ _ | refine Up.drew ?_ | refine Up.drewN ?_ _ | refine Up.setCell ?_ ?_ _ | refine Up.call ?_ (by assumption)) | go_size)))); rintro e w2 ⟨rfl, hu2⟩; clear q0 q1 q2 lq; have RX2 := HR1.out.up hu2; have q0 := RX2.cell 0 rfl; have q1 := RX2.cell 1 rfl; have q2 := RX2.cell 2 rfl; have lq := RX2.lt; have z2 := hu2.size; have HR2 := Lib.hid RX2; clear RX2))
    | (go_at_call 10; ((refine Calls.mono (HC.out _ ?_) ?_); (focus ((repeat' (first | (with_reducible first | exact Up.refl _ | assumption | refine Up.alloc ?_ _ | refine Up.drew ?_ | refine Up.drewN ?_ _ | refine Up.setCell ?_ ?_ _ | refine Up.call ?_ (by assumption)) | go_size)))); rintro e w3 ⟨bv, fv, E, rfl, hr3, hu3⟩; clear q0 q1 q2 lq; have RX3 := HR2.out.up hu3; have q0 := RX3.cell 0 rfl; have q1 := RX3.cell 1 rfl; have q2 := RX3.cell 2 rfl; have lq := RX3.lt; have z3 := hu3.size; have HR3 := Lib.hid RX3; clear RX3)))
  have HU3 := Lib.hid (show Up w w3 by (repeat' (first | (with_reducible first | exact Up.refl _ | assumption | refine Up.alloc ?_ _ | refine Up.drew ?_ | refine Up.drewN ?_ _ | refine Up.setCell ?_ ?_ _ | refine Up.call ?_ (by assumption)) | go_size)))
  go_cut [8] from 13 (fun s8 wx => s8 = .int .i64 K ∧ wx = w3)
  case first =>
    clear hbn
    cases bn
    · have HKK := Lib.hid (show K = 0 by rw [← HKE.out, if_neg (of_decide_eq_false HBN.out)])
      go_wp2
      go_meet
      case rel => exact ⟨by rw [HKK.out]; rfl, rfl⟩
    · have HKK := Lib.hid (show zn % (n + 1) = K by rw [← HKE.out, if_pos (of_decide_eq_true HBN.out)])
      have hn1 : ¬ ((n : Int) + 1 = 0) := by omega
      go_wp2
      go_meet
      case rel => exact ⟨by rw [← HKK.out]; simp, rfl⟩
  obtain ⟨rfl, rfl⟩ := hcut
  rename World => w3
  clear hbn
  go_upto_region 7 with fail
  go_cut [9, 10, 11] from 13 (fun s9 s10 s11 wx => ∃ F : Int, s11 = .int .i64 F ∧ Hid (∃ V : World, CRes V ((its.take K).map Pt.Item.dat) (pageR W H (its.take K)) wx s9 s10 F) ∧ Hid (Up w3 wx))
  case first =>
    by_cases hK0 : K = 0
    · subst hK0
      have HH := Lib.hid HS.out.2.2.2.1
      refine wp_region_held_drew (S := fun w' => w'.cell? ⟨w.heap.size, 0, none⟩ = some (.int .i64 W) ∧ w'.cell? ⟨w.heap.size, 1, none⟩ = some (.int .i64 H) ∧ w'.cell? ⟨w.heap.size, 2, none⟩ = some (.slice a n c)) (by kernel_rfl) ?_ (fun hHeld => ?_)
      · exact ⟨q0, q1, q2⟩
      refine wpAnyH_take (i := 0) (v := ?_) rfl (by decide +kernel) (by decide +kernel) (by decide +kernel) (fun _ _ _ h => h) (Or.inl ⟨by rfl, ?_⟩) (by assumption) ?_
      rotate_left
      · intro w2 hSw
        (try dsimp only at hSw)
        (try (obtain ⟨hs1, hs2, hs3⟩ := hSw))
        go_simp
        (try (with_reducible rfl))
      (try simp only [Act.put, lga, lgz, lgs, lsa, lsz, lss])
      refine wpAnyH_take (i := 1) (v := ?_) rfl (by decide +kernel) (by decide +kernel) (by decide +kernel) (fun _ _ _ h => h) (Or.inl ⟨by rfl, ?_⟩) (by assumption) ?_
      rotate_left
      · intro w2 hSw
        (try dsimp only at hSw)
        (try (obtain ⟨hs1, hs2, hs3⟩ := hSw))
        go_simp
        (try (with_reducible rfl))
      (try simp only [Act.put, lga, lgz, lgs, lsa, lsz, lss])
      refine wpAnyH_take (i := 2) (v := ?_) rfl (by decide +kernel) (by decide +kernel) (by decide +kernel) (fun _ _ _ h => h) (Or.inl ⟨by rfl, ?_⟩) (by assumption) ?_
      rotate_left
      · intro w2 hSw
        (try dsimp only at hSw)
        (try (obtain ⟨hs1, hs2, hs3⟩ := hSw))
        go_simp
        (try (with_reducible rfl))
      (try simp only [Act.put, lga, lgz, lgs, lsa, lsz, lss])
      refine wpAnyH_take (i := 3) (v := ?_) rfl (by decide +kernel) (by decide +kernel) (by decide +kernel) (fun _ _ _ h => h) (Or.inl ⟨by rfl, ?_⟩) (by assumption) ?_
      rotate_left
      · intro w2 hSw
        (try dsimp only at hSw)
        (try (obtain ⟨hs1, hs2, hs3⟩ := hSw))
        go_simp
        (try (with_reducible rfl))
      (try simp only [Act.put, lga, lgz, lgs, lsa, lsz, lss])
      refine wpAnyH_take (i := 4) (v := ?_) rfl (by decide +kernel) (by decide +kernel) (by decide +kernel) (fun _ _ _ h => h) (Or.inl ⟨by rfl, ?_⟩) (by assumption) ?_
      rotate_left
      · intro w2 hSw
        (try dsimp only at hSw)
        (try (obtain ⟨hs1, hs2, hs3⟩ := hSw))
        go_simp
        (try (with_reducible rfl))
      (try simp only [Act.put, lga, lgz, lgs, lsa, lsz, lss])
      refine wpAnyH_take (i := 5) (v := ?_) rfl (by decide +kernel) (by decide +kernel) (by decide +kernel) (fun _ _ _ h => h) (Or.inl ⟨by rfl, ?_⟩) (by assumption) ?_
      rotate_left
      · intro w2 hSw
        (try dsimp only at hSw)
        (try (obtain ⟨hs1, hs2, hs3⟩ := hSw))
        go_simp
        (try (with_reducible rfl))
      (try simp only [Act.put, lga, lgz, lgs, lsa, lsz, lss])
      refine wpAnyH_take (i := 6) (v := ?_) rfl (by decide +kernel) (by decide +kernel) (by decide +kernel) (fun _ _ _ h => h) (Or.inl ⟨by rfl, ?_⟩) (by assumption) ?_
      rotate_left
      · intro w2 hSw
        (try dsimp only at hSw)
        (try (obtain ⟨hs1, hs2, hs3⟩ := hSw))
        go_simp
        (try (with_reducible rfl))
      (try simp only [Act.put, lga, lgz, lgs, lsa, lsz, lss])
      refine wpAnyH_take (i := 7) (v := ?_) rfl (by decide +kernel) (by decide +kernel) (by decide +kernel) (fun _ _ _ h => h) (Or.inl ⟨by rfl, ?_⟩) (by assumption) ?_
      rotate_left
      · intro w2 hSw
        (try dsimp only at hSw)
        (try (obtain ⟨hs1, hs2, hs3⟩ := hSw))
        go_simp
        (try (with_reducible rfl))
      (try simp only [Act.put, lga, lgz, lgs, lsa, lsz, lss])
      refine wpAnyH_take (i := 8) (v := ?_) rfl (by decide +kernel) (by decide +kernel) (by decide +kernel) (fun _ _ _ h => h) (Or.inl ⟨by rfl, ?_⟩) (by assumption) ?_
      rotate_left
      · intro w2 hSw
        (try dsimp only at hSw)
        (try (obtain ⟨hs1, hs2, hs3⟩ := hSw))
        go_simp
        (try (with_reducible rfl))
      (try simp only [Act.put, lga, lgz, lgs, lsa, lsz, lss])
      refine wpAnyH_ready (rs := [9]) (by decide +kernel) (by simp) ?_
      refine AllReadyH.cons rfl (fun K hK => ?_) (AllReadyH.nil)
      (try simp only [lga, lgz, lgs])
      (go_simp; go_at_call 10; ((refine Calls.mono (HCK0.out _ ?_ _ ?_) ?_); (focus (intro h9; exact (HH.out h9).2)); (focus (exact HU3.out.call (by (repeat' (first | (with_reducible first | exact Up.refl _ | assumption | refine Up.alloc ?_ _ | refine Up.drew ?_ | refine Up.drewN ?_ _ | refine Up.setCell ?_ ?_ _ | refine Up.call ?_ (by assumption)) | go_size))))); rintro e w4 ⟨av, fa, F, rfl, hr4, hu4⟩); (try dsimp only))
      refine hK.out _ _ ?_ (fun hHeld => ?_)
      · exact ⟨(hu4.cells.1 _ 0 (by simp; omega)).trans hHeld.1, (hu4.cells.1 _ 1 (by simp; omega)).trans hHeld.2.1, (hu4.cells.1 _ 2 (by simp; omega)).trans hHeld.2.2⟩
      clear hK K
      (try simp only [Act.put, lga, lgz, lgs, lsa, lsz, lss])
      refine wpAnyH_take (i := 10) (v := ?_) rfl (by decide +kernel) (by decide +kernel) (by decide +kernel) (fun _ _ _ h => h) (Or.inl ⟨by rfl, ?_⟩) (by assumption) ?_
      rotate_left
      · intro w2 hSw
        (try dsimp only at hSw)
        (try (obtain ⟨hs1, hs2, hs3⟩ := hSw))
        go_simp
        (try (with_reducible rfl))
      (try simp only [Act.put, lga, lgz, lgs, lsa, lsz, lss])
      refine wpAnyH_take (i := 11) (v := ?_) rfl (by decide +kernel) (by decide +kernel) (by decide +kernel) (fun _ _ _ h => h) (Or.inl ⟨by rfl, ?_⟩) (by assumption) ?_
      rotate_left
      · intro w2 hSw
        (try dsimp only at hSw)
        (try (obtain ⟨hs1, hs2, hs3⟩ := hSw))
        go_simp
        (try (with_reducible rfl))
      (try simp only [Act.put, lga, lgz, lgs, lsa, lsz, lss])
      refine wpAnyH_take (i := 12) (v := ?_) rfl (by decide +kernel) (by decide +kernel) (by decide +kernel) (fun _ _ _ h => h) (Or.inl ⟨by rfl, ?_⟩) (by assumption) ?_
      rotate_left
      · intro w2 hSw
        (try dsimp only at hSw)
        (try (obtain ⟨hs1, hs2, hs3⟩ := hSw))
        go_simp
        (try (with_reducible rfl))
      (try simp only [Act.put, lga, lgz, lgs, lsa, lsz, lss])
      refine wpAnyH_take (i := 13) (v := ?_) rfl (by decide +kernel) (by decide +kernel) (by decide +kernel) (fun _ _ _ h => h) (Or.inl ⟨by rfl, ?_⟩) (by assumption) ?_
      rotate_left
      · intro w2 hSw
        (try dsimp only at hSw)
        (try (obtain ⟨hs1, hs2, hs3⟩ := hSw))
        go_simp
        (try (with_reducible rfl))
      (try simp only [Act.put, lga, lgz, lgs, lsa, lsz, lss])
      refine wpAnyH_take (i := 14) (v := ?_) rfl (by decide +kernel) (by decide +kernel) (by decide +kernel) (fun _ _ _ h => h) (Or.inl ⟨by rfl, ?_⟩) (by assumption) ?_
      rotate_left
      · intro w2 hSw
        (try dsimp only at hSw)
        (try (obtain ⟨hs1, hs2, hs3⟩ := hSw))
        go_simp
        (try (with_reducible rfl))
      (try simp only [Act.put, lga, lgz, lgs, lsa, lsz, lss])
      refine wpAnyH_take (i := 15) (v := ?_) rfl (by decide +kernel) (by decide +kernel) (by decide +kernel) (fun _ _ _ h => h) (Or.inl ⟨by rfl, ?_⟩) (by assumption) ?_
      rotate_left
      · intro w2 hSw
        (try dsimp only at hSw)
        (try (obtain ⟨hs1, hs2, hs3⟩ := hSw))
        go_simp
        (try (with_reducible rfl))
      (try simp only [Act.put, lga, lgz, lgs, lsa, lsz, lss])
      refine wpAnyH_take (i := 16) (v := ?_) rfl (by decide +kernel) (by decide +kernel) (by decide +kernel) (fun _ _ _ h => h) (Or.inl ⟨by rfl, ?_⟩) (by assumption) ?_
      rotate_left
      · intro w2 hSw
        (try dsimp only at hSw)
        (try (obtain ⟨hs1, hs2, hs3⟩ := hSw))
        go_simp
        (try (with_reducible rfl))
      (try simp only [Act.put, lga, lgz, lgs, lsa, lsz, lss])
      refine wpAnyH_done (by decide +kernel) ?_ _
      clear hHeld
      all_goals go_wp2
      all_goals go_meet
      all_goals (case rel => exact ⟨F, rfl, Lib.hid ⟨_, hr4.out⟩, Lib.hid (by (repeat' (first | (with_reducible first | exact Up.refl _ | assumption | refine Up.alloc ?_ _ | refine Up.drew ?_ | refine Up.drewN ?_ _ | refine Up.setCell ?_ ?_ _ | refine Up.call ?_ (by assumption)) | go_size)))⟩)
    · obtain ⟨g, o, ha, hg, -⟩ := HS.out.2.2.2.2 (by omega)
      subst ha
      have hlc : ¬ c = 0 := by omega
      have hKc : K ≤ c := by omega
      refine wp_region_held_drew (S := fun w' => w'.cell? ⟨w.heap.size, 0, none⟩ = some (.int .i64 W) ∧ w'.cell? ⟨w.heap.size, 1, none⟩ = some (.int .i64 H) ∧ w'.cell? ⟨w.heap.size, 2, none⟩ = some (.slice (some ⟨g, o, none⟩) n c)) (by kernel_rfl) ?_ (fun hHeld => ?_)
      · exact ⟨q0, q1, q2⟩
      refine wpAnyH_take (i := 0) (v := ?_) rfl (by decide +kernel) (by decide +kernel) (by decide +kernel) (fun _ _ _ h => h) (Or.inl ⟨by rfl, ?_⟩) (by assumption) ?_
      rotate_left
      · intro w2 hSw
        (try dsimp only at hSw)
        (try (obtain ⟨hs1, hs2, hs3⟩ := hSw))
        go_simp
        (try (with_reducible rfl))
      (try simp only [Act.put, lga, lgz, lgs, lsa, lsz, lss])
      refine wpAnyH_take (i := 1) (v := ?_) rfl (by decide +kernel) (by decide +kernel) (by decide +kernel) (fun _ _ _ h => h) (Or.inl ⟨by rfl, ?_⟩) (by assumption) ?_
      rotate_left
      · intro w2 hSw
        (try dsimp only at hSw)
        (try (obtain ⟨hs1, hs2, hs3⟩ := hSw))
        go_simp
        (try (with_reducible rfl))
      (try simp only [Act.put, lga, lgz, lgs, lsa, lsz, lss])
      refine wpAnyH_take (i := 2) (v := ?_) rfl (by decide +kernel) (by decide +kernel) (by decide +kernel) (fun _ _ _ h => h) (Or.inl ⟨by rfl, ?_⟩) (by assumption) ?_
      rotate_left
      · intro w2 hSw
        (try dsimp only at hSw)
        (try (obtain ⟨hs1, hs2, hs3⟩ := hSw))
        go_simp
        (try (with_reducible rfl))
      (try simp only [Act.put, lga, lgz, lgs, lsa, lsz, lss])
      refine wpAnyH_take (i := 3) (v := ?_) rfl (by decide +kernel) (by decide +kernel) (by decide +kernel) (fun _ _ _ h => h) (Or.inl ⟨by rfl, ?_⟩) (by assumption) ?_
      rotate_left
      · intro w2 hSw
        (try dsimp only at hSw)
        (try (obtain ⟨hs1, hs2, hs3⟩ := hSw))
        go_simp
        (try (with_reducible rfl))
      (try simp only [Act.put, lga, lgz, lgs, lsa, lsz, lss])
      refine wpAnyH_take (i := 4) (v := ?_) rfl (by decide +kernel) (by decide +kernel) (by decide +kernel) (fun _ _ _ h => h) (Or.inl ⟨by rfl, ?_⟩) (by assumption) ?_
      rotate_left
      · intro w2 hSw
        (try dsimp only at hSw)
        (try (obtain ⟨hs1, hs2, hs3⟩ := hSw))
        go_simp
        (try (with_reducible rfl))
      (try simp only [Act.put, lga, lgz, lgs, lsa, lsz, lss])
      refine wpAnyH_take (i := 5) (v := ?_) rfl (by decide +kernel) (by decide +kernel) (by decide +kernel) (fun _ _ _ h => h) (Or.inl ⟨by rfl, ?_⟩) (by assumption) ?_
      rotate_left
      · intro w2 hSw
        (try dsimp only at hSw)
        (try (obtain ⟨hs1, hs2, hs3⟩ := hSw))
        go_simp
        (try (with_reducible rfl))
      (try simp only [Act.put, lga, lgz, lgs, lsa, lsz, lss])
      refine wpAnyH_take (i := 6) (v := ?_) rfl (by decide +kernel) (by decide +kernel) (by decide +kernel) (fun _ _ _ h => h) (Or.inl ⟨by rfl, ?_⟩) (by assumption) ?_
      rotate_left
      · intro w2 hSw
        (try dsimp only at hSw)
        (try (obtain ⟨hs1, hs2, hs3⟩ := hSw))
        go_simp
        (try (with_reducible rfl))
      (try simp only [Act.put, lga, lgz, lgs, lsa, lsz, lss])
      refine wpAnyH_take (i := 7) (v := ?_) rfl (by decide +kernel) (by decide +kernel) (by decide +kernel) (fun _ _ _ h => h) (Or.inl ⟨by rfl, ?_⟩) (by assumption) ?_
      rotate_left
      · intro w2 hSw
        (try dsimp only at hSw)
        (try (obtain ⟨hs1, hs2, hs3⟩ := hSw))
        go_simp
        (try (with_reducible rfl))
      (try simp only [Act.put, lga, lgz, lgs, lsa, lsz, lss])
      refine wpAnyH_take (i := 8) (v := ?_) rfl (by decide +kernel) (by decide +kernel) (by decide +kernel) (fun _ _ _ h => h) (Or.inl ⟨by rfl, ?_⟩) (by assumption) ?_
      rotate_left
      · intro w2 hSw
        (try dsimp only at hSw)
        (try (obtain ⟨hs1, hs2, hs3⟩ := hSw))
        go_simp
        (try (with_reducible rfl))
      (try simp only [Act.put, lga, lgz, lgs, lsa, lsz, lss])
      refine wpAnyH_ready (rs := [9]) (by decide +kernel) (by simp) ?_
      refine AllReadyH.cons rfl (fun K hK => ?_) (AllReadyH.nil)
      (try simp only [lga, lgz, lgs])
      (go_simp; go_at_call 10; ((refine Calls.mono (HCK.out _ hKn _ ?_) ?_); (focus (exact HU3.out.call (by (repeat' (first | (with_reducible first | exact Up.refl _ | assumption | refine Up.alloc ?_ _ | refine Up.drew ?_ | refine Up.drewN ?_ _ | refine Up.setCell ?_ ?_ _ | refine Up.call ?_ (by assumption)) | go_size))))); rintro e w4 ⟨av, fa, F, rfl, hr4, hu4⟩); (try dsimp only))
      refine hK.out _ _ ?_ (fun hHeld => ?_)
      · exact ⟨(hu4.cells.1 _ 0 (by simp; omega)).trans hHeld.1, (hu4.cells.1 _ 1 (by simp; omega)).trans hHeld.2.1, (hu4.cells.1 _ 2 (by simp; omega)).trans hHeld.2.2⟩
      clear hK K
      (try simp only [Act.put, lga, lgz, lgs, lsa, lsz, lss])
      refine wpAnyH_take (i := 10) (v := ?_) rfl (by decide +kernel) (by decide +kernel) (by decide +kernel) (fun _ _ _ h => h) (Or.inl ⟨by rfl, ?_⟩) (by assumption) ?_
      rotate_left
      · intro w2 hSw
        (try dsimp only at hSw)
        (try (obtain ⟨hs1, hs2, hs3⟩ := hSw))
        go_simp
        (try (with_reducible rfl))
      (try simp only [Act.put, lga, lgz, lgs, lsa, lsz, lss])
      refine wpAnyH_take (i := 11) (v := ?_) rfl (by decide +kernel) (by decide +kernel) (by decide +kernel) (fun _ _ _ h => h) (Or.inl ⟨by rfl, ?_⟩) (by assumption) ?_
      rotate_left
      · intro w2 hSw
        (try dsimp only at hSw)
        (try (obtain ⟨hs1, hs2, hs3⟩ := hSw))
        go_simp
        (try (with_reducible rfl))
      (try simp only [Act.put, lga, lgz, lgs, lsa, lsz, lss])
      refine wpAnyH_take (i := 12) (v := ?_) rfl (by decide +kernel) (by decide +kernel) (by decide +kernel) (fun _ _ _ h => h) (Or.inl ⟨by rfl, ?_⟩) (by assumption) ?_
      rotate_left
      · intro w2 hSw
        (try dsimp only at hSw)
        (try (obtain ⟨hs1, hs2, hs3⟩ := hSw))
        go_simp
        (try (with_reducible rfl))
      (try simp only [Act.put, lga, lgz, lgs, lsa, lsz, lss])
      refine wpAnyH_take (i := 13) (v := ?_) rfl (by decide +kernel) (by decide +kernel) (by decide +kernel) (fun _ _ _ h => h) (Or.inl ⟨by rfl, ?_⟩) (by assumption) ?_
      rotate_left
      · intro w2 hSw
        (try dsimp only at hSw)
        (try (obtain ⟨hs1, hs2, hs3⟩ := hSw))
        go_simp
        (try (with_reducible rfl))
      (try simp only [Act.put, lga, lgz, lgs, lsa, lsz, lss])
      refine wpAnyH_take (i := 14) (v := ?_) rfl (by decide +kernel) (by decide +kernel) (by decide +kernel) (fun _ _ _ h => h) (Or.inl ⟨by rfl, ?_⟩) (by assumption) ?_
      rotate_left
      · intro w2 hSw
        (try dsimp only at hSw)
        (try (obtain ⟨hs1, hs2, hs3⟩ := hSw))
        go_simp
        (try (with_reducible rfl))
      (try simp only [Act.put, lga, lgz, lgs, lsa, lsz, lss])
      refine wpAnyH_take (i := 15) (v := ?_) rfl (by decide +kernel) (by decide +kernel) (by decide +kernel) (fun _ _ _ h => h) (Or.inl ⟨by rfl, ?_⟩) (by assumption) ?_
      rotate_left
      · intro w2 hSw
        (try dsimp only at hSw)
        (try (obtain ⟨hs1, hs2, hs3⟩ := hSw))
        go_simp
        (try (with_reducible rfl))
      (try simp only [Act.put, lga, lgz, lgs, lsa, lsz, lss])
      refine wpAnyH_take (i := 16) (v := ?_) rfl (by decide +kernel) (by decide +kernel) (by decide +kernel) (fun _ _ _ h => h) (Or.inl ⟨by rfl, ?_⟩) (by assumption) ?_
      rotate_left
      · intro w2 hSw
        (try dsimp only at hSw)
        (try (obtain ⟨hs1, hs2, hs3⟩ := hSw))
        go_simp
        (try (with_reducible rfl))
      (try simp only [Act.put, lga, lgz, lgs, lsa, lsz, lss])
      refine wpAnyH_done (by decide +kernel) ?_ _
      clear hHeld
      all_goals go_wp2
      all_goals go_meet
      all_goals (case rel => exact ⟨F, rfl, Lib.hid ⟨_, hr4.out⟩, Lib.hid (by (repeat' (first | (with_reducible first | exact Up.refl _ | assumption | refine Up.alloc ?_ _ | refine Up.drew ?_ | refine Up.drewN ?_ _ | refine Up.setCell ?_ ?_ _ | refine Up.call ?_ (by assumption)) | go_size)))⟩)
  obtain ⟨F, rfl, hr4, hu4⟩ := hcut
  rename World => w4
  have HU4 := Lib.hid (HU3.out.call hu4.out)
  have HU34 := Lib.hid hu4.out
  have RX4 := HR3.out.up hu4.out
  clear q0 q1 q2 lq hu4
  have q2 := RX4.cell 2 rfl
  have lq := RX4.lt
  clear RX4
  by_cases hE : E = 0
  rotate_left
  · have dE : ((E : Int) != 0) = true := by simpa using hE
    clear hE
    go_wp2
    go_ret
    exact ⟨rfl, HU4.out.call (by (repeat' (first | (with_reducible first | exact Up.refl _ | assumption | refine Up.alloc ?_ _ | refine Up.drew ?_ | refine Up.drewN ?_ _ | refine Up.setCell ?_ ?_ _ | refine Up.call ?_ (by assumption)) | go_size)))⟩
  have dE : ((E : Int) != 0) = false := by simpa using hE
  by_cases hF : F = 0
  rotate_left
  · have dF : ((F : Int) != 0) = true := by simpa using hF
    clear hF hE
    go_wp2
    go_ret
    exact ⟨rfl, HU4.out.call (by (repeat' (first | (with_reducible first | exact Up.refl _ | assumption | refine Up.alloc ?_ _ | refine Up.drew ?_ | refine Up.drewN ?_ _ | refine Up.setCell ?_ ?_ _ | refine Up.call ?_ (by assumption)) | go_size)))⟩
  subst hE hF
  clear dE
  obtain ⟨b, fb, hcb, hob⟩ := cres_zero hr3.out
  obtain ⟨V4, hr4⟩ := hr4.out
  obtain ⟨aa, fa, hca, hoa⟩ := cres_zero hr4
  rw [List.map_take] at hca
  obtain ⟨s, hs1, hs2, hs3⟩ := ahead_law _ K (by rw [List.length_map, HN.out]; exact hKn) b aa fb fa hcb hca
  obtain ⟨bo, bc, hbv, hbc, hcvb⟩ := owns_val hob
  obtain ⟨ao, ac, hav, hac, hcva⟩ := owns_val hoa
  have hsa : s ≤ aa.length := by rw [hs1]; omega
  subst hbv hav
  obtain ⟨T, hT⟩ : ∃ T, b.take s = T := ⟨_, rfl⟩
  have cvb := hcvb s hs2 w4.drew (Up.drew HU34.out)
  have cva := hcva s hsa w4.drew (Up.drew (Up.refl _))
  have hsm : s ≤ 9223372036854775807 := by rcases hob.2 with ⟨_, h0⟩ | ⟨g, cap, cur, _, _, _, hn, hm, _⟩ <;> unfold maxLen at * <;> omega
  rw [hT] at cvb
  rw [← hs3, hT] at cva
  obtain ⟨bl, hbl⟩ : ∃ bl, b.length = bl := ⟨_, rfl⟩
  obtain ⟨al, hal⟩ : ∃ al, aa.length = al := ⟨_, rfl⟩
  rw [hbl] at hbc hs2 ⊢
  rw [hal] at hac hsa hs1 ⊢
  have HCV := Lib.hid (And.intro cvb cva)
  have HS1 := Lib.hid hs1
  have hsbc : s ≤ bc := by omega
  have hsac : s ≤ ac := by omega
  clear hs1 hs3 hcb hca hob hoa hcvb hcva hr3 hr4 cvb cva hT hbl hal
  go_upto_region 11 with fail
  go_cut [72] from 13 (fun s72 wx => (∃ r : Bool, s72 = .bool r ∧ Hid (al = s + (if r = true then 2 else 0))) ∧ wx = w4)
  case first =>
    by_cases hK0 : K = 0
    · subst hK0
      have HA1 := Lib.hid (show al = s by rw [HS1.out, if_neg (fun h => absurd h.1 (Nat.lt_irrefl 0)), Nat.add_zero])
      go_wp2
      go_meet
      case rel => exact ⟨⟨false, rfl, Lib.hid (by have := HA1.out; simpa using this)⟩, rfl⟩
    · obtain ⟨k1, rfl⟩ : ∃ k1, K = k1 + 1 := ⟨K - 1, by omega⟩
      obtain ⟨g, o, ha, hg, hc⟩ := HS.out.2.2.2.2 (by omega)
      subst ha
      obtain ⟨it, hx⟩ : ∃ x, its[k1]? = some x := ⟨_, List.getElem?_eq_getElem (by have := HN.out; omega)⟩
      obtain ⟨ca, cl, cc, hcv⟩ : ∃ ca cl cc, it.cv = .slice ca cl cc ∧ it.cl.length = cl := by
        obtain ⟨_, ⟨ca, cl, cc, e2, h2, _⟩, _⟩ := HIS.out it (List.mem_of_getElem? hx)
        exact ⟨ca, cl, cc, e2, h2.2.2.1⟩
      have q7 : w4.cell? ⟨g, o + k1 * 22 + 7, none⟩ = some (.slice ca cl cc) := (HU4.out.cells.1 g _ hg).trans (by rw [← hcv.1]; exact hc k1 it 7 _ hx rfl)
      have lg4 : g < w4.heap.size := Nat.lt_of_lt_of_le hg HU4.out.size
      have hdk : (its.map Pt.Item.dat)[k1 + 1 - 1]? = some it.dat := by rw [Nat.add_sub_cancel, List.getElem?_map, hx]; rfl
      have HA1 := Lib.hid (show al = s + (if decide (0 < cl) = true then 2 else 0) by
        rw [HS1.out]
        by_cases h0 : 0 < cl
        · rw [if_pos ⟨by omega, fun d hd => by rw [hdk] at hd; injection hd with hd; subst hd; intro e; have e2 := congrArg List.length e; rw [show it.dat.cl = it.cl.map (fun c => (c.l, c.eo)) from rfl, List.length_map, hcv.2] at e2; simp at e2; omega⟩, if_pos (decide_eq_true h0)]
        · rw [if_neg (fun h => h.2 _ hdk (List.eq_nil_of_length_eq_zero (by rw [show it.dat.cl = it.cl.map (fun c => (c.l, c.eo)) from rfl, List.length_map, hcv.2]; omega))), if_neg (by simpa using h0)])
      obtain ⟨r, hr⟩ : ∃ r, decide (0 < cl) = r := ⟨_, rfl⟩
      rw [hr] at HA1
      have k1n : k1 < n := by omega
      have hk9 : ¬ ((k1 : Int) + 1 ≤ 0) := by omega
      have hk8 : decide ((0 : Int) < (k1 : Int) + 1) = true := decide_eq_true (by omega)
      clear hc hx hcv hdk
      go_wp2
      go_meet
      case rel => exact ⟨⟨r, by first | rfl | (rw [← hr]), HA1⟩, rfl⟩
  obtain ⟨⟨r, rfl, HA1⟩, rfl⟩ := hcut
  rename World => w4
  go_upto_if 72 with fail
  go_cut [12] from 13 (fun s12 wx => s12 = .int .i64 s ∧ wx = w4)
  case first =>
    cases r
    · have HA2 := Lib.hid (show al = s by have := HA1.out; simpa using this)
      go_wp2
      go_meet
      case rel => exact ⟨by rw [HA2.out], rfl⟩
    · obtain rfl : al = s + 2 := HA1.out
      go_wp2
      go_meet
      case rel => exact ⟨by (have hw : wrap64 (s : Int) = s := by unfold wrap64; omega); simp [hw], rfl⟩
  obtain ⟨rfl, rfl⟩ := hcut
  rename World => w4
  have hcvb := HCV.out.1
  have hcva := HCV.out.2
  have d0 : decide ((0 : Int) ≤ (s : Int)) = true := decide_eq_true (by omega)
  have d1 : decide (s ≤ bl) = true := decide_eq_true hs2
  go_wp2
  refine wp_region_held_drew (S := fun w' => (convert 27 9 (.slice bo s bc)).run Tryz.prog w' = .ok (.string ⟨T.toArray⟩) w' ∧ (convert 27 9 (.slice ao s ac)).run Tryz.prog w' = .ok (.string ⟨T.toArray⟩) w') (by kernel_rfl) ?_ (fun hHeld => ?_)
  · exact ⟨hcvb, hcva⟩
  refine wpAnyH_take (i := 0) (v := ?_) rfl (by decide +kernel) (by decide +kernel) (by decide +kernel) (fun _ _ _ h => h) (Or.inl ⟨by rfl, ?_⟩) (by assumption) ?_
  rotate_left
  · intro w2 hSw
    (try dsimp only at hSw)
    (try (obtain ⟨hs1, hs2⟩ := hSw))
    go_simp
    (try (with_reducible rfl))
  (try simp only [Act.put, lga, lgz, lgs, lsa, lsz, lss])
  refine wpAnyH_take (i := 1) (v := ?_) rfl (by decide +kernel) (by decide +kernel) (by decide +kernel) (fun _ _ _ h => h) (Or.inl ⟨by rfl, ?_⟩) (by assumption) ?_
  rotate_left
  · intro w2 hSw
    (try dsimp only at hSw)
    (try (obtain ⟨hs1, hs2⟩ := hSw))
    go_simp
    (try (with_reducible rfl))
  (try simp only [Act.put, lga, lgz, lgs, lsa, lsz, lss])
  refine wpAnyH_take (i := 2) (v := ?_) rfl (by decide +kernel) (by decide +kernel) (by decide +kernel) (fun _ _ _ h => h) (Or.inl ⟨by rfl, ?_⟩) (by assumption) ?_
  rotate_left
  · intro w2 hSw
    (try dsimp only at hSw)
    (try (obtain ⟨hs1, hs2⟩ := hSw))
    go_simp
    (try (with_reducible rfl))
  (try simp only [Act.put, lga, lgz, lgs, lsa, lsz, lss])
  refine wpAnyH_take (i := 3) (v := ?_) rfl (by decide +kernel) (by decide +kernel) (by decide +kernel) (fun _ _ _ h => h) (Or.inl ⟨by rfl, ?_⟩) (by assumption) ?_
  rotate_left
  · intro w2 hSw
    (try dsimp only at hSw)
    (try (obtain ⟨hs1, hs2⟩ := hSw))
    go_simp
    (try (with_reducible rfl))
  (try simp only [Act.put, lga, lgz, lgs, lsa, lsz, lss])
  refine wpAnyH_take (i := 4) (v := ?_) rfl (by decide +kernel) (by decide +kernel) (by decide +kernel) (fun _ _ _ h => h) (Or.inl ⟨by rfl, ?_⟩) (by assumption) ?_
  rotate_left
  · intro w2 hSw
    (try dsimp only at hSw)
    (try (obtain ⟨hs1, hs2⟩ := hSw))
    go_simp
    (try (with_reducible rfl))
  (try simp only [Act.put, lga, lgz, lgs, lsa, lsz, lss])
  refine wpAnyH_take (i := 5) (v := ?_) rfl (by decide +kernel) (by decide +kernel) (by decide +kernel) (fun _ _ _ h => h) (Or.inl ⟨by rfl, ?_⟩) (by assumption) ?_
  rotate_left
  · intro w2 hSw
    (try dsimp only at hSw)
    (try (obtain ⟨hs1, hs2⟩ := hSw))
    go_simp
    (try (with_reducible rfl))
  (try simp only [Act.put, lga, lgz, lgs, lsa, lsz, lss])
  refine wpAnyH_take (i := 6) (v := ?_) rfl (by decide +kernel) (by decide +kernel) (by decide +kernel) (fun _ _ _ h => h) (Or.inl ⟨by rfl, ?_⟩) (by assumption) ?_
  rotate_left
  · intro w2 hSw
    (try dsimp only at hSw)
    (try (obtain ⟨hs1, hs2⟩ := hSw))
    go_simp
    (try (with_reducible rfl))
  (try simp only [Act.put, lga, lgz, lgs, lsa, lsz, lss])
  refine wpAnyH_take (i := 7) (v := ?_) rfl (by decide +kernel) (by decide +kernel) (by decide +kernel) (fun _ _ _ h => h) (Or.inl ⟨by rfl, ?_⟩) (by assumption) ?_
  rotate_left
  · intro w2 hSw
    (try dsimp only at hSw)
    (try (obtain ⟨hs1, hs2⟩ := hSw))
    go_simp
    (try (with_reducible rfl))
  (try simp only [Act.put, lga, lgz, lgs, lsa, lsz, lss])
  refine wpAnyH_take (i := 8) (v := ?_) rfl (by decide +kernel) (by decide +kernel) (by decide +kernel) (fun _ _ _ h => h) (Or.inl ⟨by rfl, ?_⟩) (by assumption) ?_
  rotate_left
  · intro w2 hSw
    (try dsimp only at hSw)
    (try (obtain ⟨hs1, hs2⟩ := hSw))
    go_simp
    (try (with_reducible rfl))
  (try simp only [Act.put, lga, lgz, lgs, lsa, lsz, lss])
  refine wpAnyH_take (i := 9) (v := ?_) rfl (by decide +kernel) (by decide +kernel) (by decide +kernel) (fun _ _ _ h => h) (Or.inl ⟨by rfl, ?_⟩) (by assumption) ?_
  rotate_left
  · intro w2 hSw
    (try dsimp only at hSw)
    (try (obtain ⟨hs1, hs2⟩ := hSw))
    go_simp
    (try (with_reducible rfl))
  (try simp only [Act.put, lga, lgz, lgs, lsa, lsz, lss])
  refine wpAnyH_take (i := 10) (v := ?_) rfl (by decide +kernel) (by decide +kernel) (by decide +kernel) (fun _ _ _ h => h) (Or.inl ⟨by rfl, ?_⟩) (by assumption) ?_
  rotate_left
  · intro w2 hSw
    (try dsimp only at hSw)
    (try (obtain ⟨hs1, hs2⟩ := hSw))
    go_simp
    (try (with_reducible rfl))
  (try simp only [Act.put, lga, lgz, lgs, lsa, lsz, lss])
  refine wpAnyH_take (i := 11) (v := ?_) rfl (by decide +kernel) (by decide +kernel) (by decide +kernel) (fun _ _ _ h => h) (Or.inl ⟨by rfl, ?_⟩) (by assumption) ?_
  rotate_left
  · intro w2 hSw
    (try dsimp only at hSw)
    (try (obtain ⟨hs1, hs2⟩ := hSw))
    go_simp
    (try (with_reducible rfl))
  (try simp only [Act.put, lga, lgz, lgs, lsa, lsz, lss])
  refine wpAnyH_take (i := 12) (v := ?_) rfl (by decide +kernel) (by decide +kernel) (by decide +kernel) (fun _ _ _ h => h) (Or.inl ⟨by rfl, ?_⟩) (by assumption) ?_
  rotate_left
  · intro w2 hSw
    (try dsimp only at hSw)
    (try (obtain ⟨hs1, hs2⟩ := hSw))
    go_simp
    (try (with_reducible rfl))
  (try simp only [Act.put, lga, lgz, lgs, lsa, lsz, lss])
  refine wpAnyH_take (i := 13) (v := ?_) rfl (by decide +kernel) (by decide +kernel) (by decide +kernel) (fun _ _ _ h => h) (Or.inl ⟨by rfl, ?_⟩) (by assumption) ?_
  rotate_left
  · intro w2 hSw
    (try dsimp only at hSw)
    (try (obtain ⟨hs1, hs2⟩ := hSw))
    go_simp
    (try (with_reducible rfl))
  (try simp only [Act.put, lga, lgz, lgs, lsa, lsz, lss])
  refine wpAnyH_take (i := 14) (v := ?_) rfl (by decide +kernel) (by decide +kernel) (by decide +kernel) (fun _ _ _ h => h) (Or.inl ⟨by rfl, ?_⟩) (by assumption) ?_
  rotate_left
  · intro w2 hSw
    (try dsimp only at hSw)
    (try (obtain ⟨hs1, hs2⟩ := hSw))
    go_simp
    (try (with_reducible rfl))
  (try simp only [Act.put, lga, lgz, lgs, lsa, lsz, lss])
  refine wpAnyH_take (i := 15) (v := ?_) rfl (by decide +kernel) (by decide +kernel) (by decide +kernel) (fun _ _ _ h => h) (Or.inl ⟨by rfl, ?_⟩) (by assumption) ?_
  rotate_left
  · intro w2 hSw
    (try dsimp only at hSw)
    (try (obtain ⟨hs1, hs2⟩ := hSw))
    go_simp
    (try (with_reducible rfl))
  (try simp only [Act.put, lga, lgz, lgs, lsa, lsz, lss])
  refine wpAnyH_take (i := 16) (v := ?_) rfl (by decide +kernel) (by decide +kernel) (by decide +kernel) (fun _ _ _ h => h) (Or.inl ⟨by rfl, ?_⟩) (by assumption) ?_
  rotate_left
  · intro w2 hSw
    (try dsimp only at hSw)
    (try (obtain ⟨hs1, hs2⟩ := hSw))
    go_simp
    (try (with_reducible rfl))
  (try simp only [Act.put, lga, lgz, lgs, lsa, lsz, lss])
  refine wpAnyH_take (i := 17) (v := ?_) rfl (by decide +kernel) (by decide +kernel) (by decide +kernel) (fun _ _ _ h => h) (Or.inl ⟨by rfl, ?_⟩) (by assumption) ?_
  rotate_left
  · intro w2 hSw
    (try dsimp only at hSw)
    (try (obtain ⟨hs1, hs2⟩ := hSw))
    go_simp
    (try (with_reducible rfl))
  (try simp only [Act.put, lga, lgz, lgs, lsa, lsz, lss])
  refine wpAnyH_take (i := 18) (v := ?_) rfl (by decide +kernel) (by decide +kernel) (by decide +kernel) (fun _ _ _ h => h) (Or.inl ⟨by rfl, ?_⟩) (by assumption) ?_
  rotate_left
  · intro w2 hSw
    (try dsimp only at hSw)
    (try (obtain ⟨hs1, hs2⟩ := hSw))
    go_simp
    (try (with_reducible rfl))
  (try simp only [Act.put, lga, lgz, lgs, lsa, lsz, lss])
  refine wpAnyH_take (i := 19) (v := ?_) rfl (by decide +kernel) (by decide +kernel) (by decide +kernel) (fun _ _ _ h => h) (Or.inl ⟨by rfl, ?_⟩) (by assumption) ?_
  rotate_left
  · intro w2 hSw
    (try dsimp only at hSw)
    (try (obtain ⟨hs1, hs2⟩ := hSw))
    go_simp
    (try (with_reducible rfl))
  (try simp only [Act.put, lga, lgz, lgs, lsa, lsz, lss])
  refine wpAnyH_done (by decide +kernel) ?_ _
  clear hHeld
  go_wp2
  all_goals go_ret
  all_goals exact ⟨rfl, HU4.out.call (by (repeat' (first | (with_reducible first | exact Up.refl _ | assumption | refine Up.alloc ?_ _ | refine Up.drew ?_ | refine Up.drewN ?_ _ | refine Up.setCell ?_ ?_ _ | refine Up.call ?_ (by assumption)) | go_size)))⟩
end Go.Proofs.YtpellcdggaeppaaGreatDoor.Dr
end

section
namespace Go.Proofs.YtpellcdggaeppaaGreatDoor.Dr
open Go.ChangeShapes Go.WideShapes Go.ChangeAt Go.RowKit Go.Deep
open Go.Proofs.YtpellcdggaeppaaGreatDoor.Pob
open Go.Proofs.YtpellcdggaeppaaGreatDoor.Font
set_option linter.unusedVariables false
set_option linter.unusedSimpArgs false

theorem tab_third {P : Program} {W : World} {name : String} {k : IntKind} {zs : List Int} {a b : String × DataW Unit} {rest : List (String × DataW Unit)} {g : Nat} {t e : TypeId} {n : Nat}
    (hg : P.globalNamed name = some g) (hty : (P.globals[g]?).map (·.type) = some t) (ht : P.underlying t = some (.array n e)) (he : P.underlying e = some (.int k)) (hce : P.cellsOf e = 1) (hct : P.cellsOf t = n)
    (h : laidMet P (a :: b :: (name, Lib.tabData k zs) :: rest) W) : Lib.TabIs P W name k zs := by
  obtain ⟨a1, a2⟩ := a
  obtain ⟨b1, b2⟩ := b
  obtain ⟨ps, ⟨_, _, _, _, _, q1, _, _, _, _, ⟨_, _, _, _, _, q2, _, _, _, _, ⟨g', t', cs, fuel, p, q, hg', ht', hvar, hd, _, _⟩, _⟩, _⟩, _⟩ := h
  obtain rfl := Option.some.inj (hg.symm.trans hg')
  obtain rfl := Option.some.inj (hty.symm.trans ht')
  unfold Lib.TabIs
  rw [hvar, ← Lib.cells_of_tab ht he hce hct hd]
theorem fonts_fourth {W : World} {a b c : String × DataW Unit} {rest : List (String × DataW Unit)} (h : laidMet Tryz.prog (a :: b :: c :: ("mezzotint/font.names", .agg (namesL.map fun l => .lit (.string l))) :: rest) W) : Tab W := by
  obtain ⟨a1, a2⟩ := a
  obtain ⟨b1, b2⟩ := b
  obtain ⟨c1, c2⟩ := c
  obtain ⟨ps, ⟨_, _, _, _, _, q1, _, _, _, _, ⟨_, _, _, _, _, q2, _, _, _, _, ⟨_, _, _, _, _, q3, _, _, _, _, ⟨g', t', cs, fuel, p, q, hg', ht', hvar, hd, _, _⟩, _⟩, _⟩, _⟩, _⟩ := h
  obtain rfl := Option.some.inj (gTab.symm.trans hg')
  obtain rfl := Option.some.inj (gTabType.symm.trans ht')
  have h1 := cells_of_strings Tryz.underlying187 Tryz.underlying9 cellsE cellsT rfl hd
  have h2 : cs = namesV := by
    apply Array.ext'
    rw [h1]
    rfl
  subst h2
  simp only [World.var?, gTab, Option.bind_some] at hvar
  split at hvar
  · rename_i cs' t fr hb
    exact ⟨t, fr, by rw [hb]; injection hvar with hv; rw [hv]⟩
  · cases hvar
theorem ptPage : Tryz.prog.cellsOf 24 = 3 := by kernel_rfl
theorem ptItems : Tryz.prog.cellsOf 22 = 1 := by kernel_rfl
theorem pageV_agg {H : Type} {enc : TypeId × Value → H} {W : World} {v : Value} {d : DataW H} {p : List MemPlace}
    (h : DataW.Trod enc Tryz.prog W 0 (fun _ => true) true 24 v d p) : ∃ cs, v = .agg cs := by
  obtain ⟨fuel, hf⟩ := h
  obtain ⟨n, hl, -⟩ := trod_field Tryz.underlying24 hf
  rw [ptPage] at hl
  clear hf
  cases v <;> first | exact ⟨_, rfl⟩ | (simp [Value.cells] at hl)
set_option maxRecDepth 8000 in
theorem page_open {H : Type} {enc : TypeId × Value → H} {W : World} {cs : Array Value} {d : DataW H} {p : List MemPlace}
    (h : DataW.Trod enc Tryz.prog W 0 (fun _ => true) true 24 (.agg cs) d p) : ∃ (w h : Int) (v : Value) (its : List Pt.Item), cs = #[.int .i64 w, .int .i64 h, v] ∧ Pt.ItemV W v its := by
  obtain ⟨fuel, hf⟩ := h
  obtain ⟨l⟩ := cs
  obtain ⟨n, hl, hF⟩ := trod_field Tryz.underlying24 (show DataW.trod enc Tryz.prog W 0 (fun _ => true) true fuel 24 l = some (d, p) from hf)
  clear hf
  rw [ptPage] at hl
  match l, hl with
  | [c0, c1, c2], _ =>
    obtain ⟨y0, h0⟩ := hF 0 _ rfl
    obtain ⟨y1, h1⟩ := hF 1 _ rfl
    obtain ⟨y2, h2⟩ := hF 2 _ rfl
    simp [Pt.ptInt, ptItems] at h0 h1 h2
    obtain ⟨x, e0, -, -⟩ := DataW.trod_int Tryz.underlying3 h0
    obtain ⟨y, e1, -, -⟩ := DataW.trod_int Tryz.underlying3 h1
    obtain ⟨v, its, e2, hi⟩ := Pt.items_open h2
    simp at e0 e1 e2
    subst e0 e1 e2
    exact ⟨x, y, c2, its, rfl, hi⟩
end Go.Proofs.YtpellcdggaeppaaGreatDoor.Dr
end
