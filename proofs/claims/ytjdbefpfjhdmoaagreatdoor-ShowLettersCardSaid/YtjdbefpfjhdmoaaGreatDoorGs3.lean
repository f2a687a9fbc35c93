/- Package gstate: SetMatrix, SetFont, Clip of a state in which nothing is saved and nothing clips. No condition but the fonts' names. -/
import Derived.Test.YtjdbefpfjhdmoaaGreatDoorGs2
import Derived.Test.YtjdbefpfjhdmoaaGreatDoorPathV
import Derived.Test.YtjdbefpfjhdmoaaGreatDoorFontT
import Derived.Test.YtjdbefpfjhdmoaaGreatDoorArgs
namespace Go.Proofs.YtjdbefpfjhdmoaaGreatDoor.Gs
open Go.ChangeShapes Go.WideShapes Go.RowKit
open Go.Proofs.YtjdbefpfjhdmoaaGreatDoor.FixM (fits)
open Go.Proofs.YtjdbefpfjhdmoaaGreatDoor.MatM (M6)
open Go.Proofs.YtjdbefpfjhdmoaaGreatDoor.PathM
set_option linter.unusedVariables false
set_option linter.unusedSimpArgs false

theorem intsAt_row {w : World} {b : Nat} {l : List Int} {cs : Array Value} (h : Row w b cs) (e : cs.toList = l.map (Value.int .i64)) : IntsAt w b 0 l := fun i p hp => by
  rw [Nat.zero_add]
  refine h.cell i ?_
  have : cs.toList[i]? = some (.int .i64 p) := by rw [e, List.getElem?_map, hp]; rfl
  simpa using this
abbrev lM (m : M6) : List Int := [m.a, m.b, m.c, m.d, m.x, m.y]
theorem infoA6 : (Tryz.prog.info? 22).map (·.size) = some 6 := by kernel_rfl

set_option maxRecDepth 8000 in
theorem setMatrix_calls (b : Nat) (c : M6) (wd ph fn : Int) (dash : Value) (fm : M6) (dk : Bool) (p : Nat) (most segs : Int) (m : M6) (w : World) (h : Row w b (gsC c wd dash ph fn fm dk p most segs)) :
    Calls Tryz.prog 17 #[.pointer (some ⟨b, 0, none⟩), .agg #[.int .i64 m.a, .int .i64 m.b, .int .i64 m.c, .int .i64 m.d, .int .i64 m.x, .int .i64 m.y]] w fun E w' => E = .returned (.int .i64 (chk (lM m))) ∧ Row w' b (gsC (if chk (lM m) = 0 then m else c) wd dash ph fn fm dk p most segs) ∧ Chg [b] w w' := by
  have HR := Lib.hid h
  have hlt := h.lt
  clear h
  have hv : chk (lM m) = 0 ∨ chk (lM m) = 11 := by unfold chk; split <;> simp
  rcases hv with hv | hv
  · rw [hv, if_pos rfl]
    have HV := Lib.hid hv
    clear hv
    go_enter Tryz.func17, Tryz.ntmps17
    go_wp2_with (first
      | (go_at_call 42; ((with_reducible refine (check_calls ⟨b, 0, none⟩ (lM m) 6 w.heap.size 0 6 rfl _ (by decide) (intsAt_row (cs := #[.int .i64 m.a, .int .i64 m.b, .int .i64 m.c, .int .i64 m.d, .int .i64 m.x, .int .i64 m.y]) (by (repeat' (first | (with_reducible assumption) | (with_reducible refine Row.at _ _ ?_; (simp; done)) | (with_reducible refine Row.alloc ?_ _) | (with_reducible refine Row.drew ?_) | (with_reducible refine Row.drewN ?_ _) | (with_reducible refine Row.other ?_ (by first | (simp; done) | (simp; omega) | omega) _) | (with_reducible refine Row.up ?_ (by with_reducible assumption)) | (with_reducible refine Row.chg ?_ (by with_reducible assumption) (by first | (simp; done) | (simp; omega)))))) rfl) (by simp)).mono ?_); rw [HV.out]; rintro E w1 ⟨rfl, hu1⟩; have z1 := hu1.size; (try simp at z1); have RB := Row.up (show Row _ b (gsC c wd dash ph fn fm dk p most segs) from HR.out.alloc _) hu1; have RB_lt := RB.lt; have RM : Row w1 w.heap.size #[.int .i64 m.a, .int .i64 m.b, .int .i64 m.c, .int .i64 m.d, .int .i64 m.x, .int .i64 m.y] := Row.up (show Row _ w.heap.size #[.int .i64 m.a, .int .i64 m.b, .int .i64 m.c, .int .i64 m.d, .int .i64 m.x, .int .i64 m.y] by (repeat' (first | (with_reducible assumption) | (with_reducible refine Row.at _ _ ?_; (simp; done)) | (with_reducible refine Row.alloc ?_ _) | (with_reducible refine Row.drew ?_) | (with_reducible refine Row.drewN ?_ _) | (with_reducible refine Row.other ?_ (by first | (simp; done) | (simp; omega) | omega) _) | (with_reducible refine Row.up ?_ (by with_reducible assumption)) | (with_reducible refine Row.chg ?_ (by with_reducible assumption) (by first | (simp; done) | (simp; omega)))))) hu1))
      | (refine wpList_load_Row rfl 22 (.tmp 3) rfl (w.heap.size) rfl #[.int .i64 m.a, .int .i64 m.b, .int .i64 m.c, .int .i64 m.d, .int .i64 m.x, .int .i64 m.y] _ (by (repeat' (first | (with_reducible assumption) | (with_reducible refine Row.at _ _ ?_; (simp; done)) | (with_reducible refine Row.alloc ?_ _) | (with_reducible refine Row.drew ?_) | (with_reducible refine Row.drewN ?_ _) | (with_reducible refine Row.other ?_ (by first | (simp; done) | (simp; omega) | omega) _) | (with_reducible refine Row.up ?_ (by with_reducible assumption)) | (with_reducible refine Row.chg ?_ (by with_reducible assumption) (by first | (simp; done) | (simp; omega)))))) Tryz.underlying22 rfl infoA6 rfl ?_; have rb0 := RB.cell 0 rfl; have rb1 := RB.cell 1 rfl; have rb2 := RB.cell 2 rfl; have rb3 := RB.cell 3 rfl; have rb4 := RB.cell 4 rfl; have rb5 := RB.cell 5 rfl; have rbf0 := RB.free 0; have rbf1 := RB.free 1; have rbf2 := RB.free 2; have rbf3 := RB.free 3; have rbf4 := RB.free 4; have rbf5 := RB.free 5))
    go_ret
    exact ⟨rfl, (by apply cast; (case h => (repeat (first | (with_reducible assumption) | (with_reducible apply Row.at; (simp; done)) | (with_reducible apply Row.alloc) | (with_reducible apply Row.drew) | (with_reducible apply Row.drewN) | (with_reducible apply Row.set) | ((with_reducible apply Row.other); (case hp => first | (simp; done) | (simp; omega) | omega))))); (case e => rfl)), by (repeat' (first | (with_reducible exact Chg.refl _ _) | (with_reducible assumption) | (with_reducible refine Chg.alloc ?_ _) | (with_reducible refine Chg.drew ?_) | (with_reducible refine Chg.drewN ?_ _) | (with_reducible refine Chg.setCell ?_ ?_ _) | (with_reducible refine Chg.upc ?_ (by with_reducible assumption)) | (with_reducible refine Chg.call ?_ (by with_reducible assumption) ?_) | (refine Or.inl ?_; (simp; done)) | (simp; done) | (simp; omega) | omega))⟩
  · rw [hv, if_neg (by decide)]
    have HV := Lib.hid hv
    clear hv
    go_enter Tryz.func17, Tryz.ntmps17
    go_wp2_with (first
      | (go_at_call 42; ((with_reducible refine (check_calls ⟨b, 0, none⟩ (lM m) 6 w.heap.size 0 6 rfl _ (by decide) (intsAt_row (cs := #[.int .i64 m.a, .int .i64 m.b, .int .i64 m.c, .int .i64 m.d, .int .i64 m.x, .int .i64 m.y]) (by (repeat' (first | (with_reducible assumption) | (with_reducible refine Row.at _ _ ?_; (simp; done)) | (with_reducible refine Row.alloc ?_ _) | (with_reducible refine Row.drew ?_) | (with_reducible refine Row.drewN ?_ _) | (with_reducible refine Row.other ?_ (by first | (simp; done) | (simp; omega) | omega) _) | (with_reducible refine Row.up ?_ (by with_reducible assumption)) | (with_reducible refine Row.chg ?_ (by with_reducible assumption) (by first | (simp; done) | (simp; omega)))))) rfl) (by simp)).mono ?_); rw [HV.out]; rintro E w1 ⟨rfl, hu1⟩; have z1 := hu1.size; (try simp at z1); have RB := Row.up (show Row _ b (gsC c wd dash ph fn fm dk p most segs) from HR.out.alloc _) hu1; have RB_lt := RB.lt; have RM : Row w1 w.heap.size #[.int .i64 m.a, .int .i64 m.b, .int .i64 m.c, .int .i64 m.d, .int .i64 m.x, .int .i64 m.y] := Row.up (show Row _ w.heap.size #[.int .i64 m.a, .int .i64 m.b, .int .i64 m.c, .int .i64 m.d, .int .i64 m.x, .int .i64 m.y] by (repeat' (first | (with_reducible assumption) | (with_reducible refine Row.at _ _ ?_; (simp; done)) | (with_reducible refine Row.alloc ?_ _) | (with_reducible refine Row.drew ?_) | (with_reducible refine Row.drewN ?_ _) | (with_reducible refine Row.other ?_ (by first | (simp; done) | (simp; omega) | omega) _) | (with_reducible refine Row.up ?_ (by with_reducible assumption)) | (with_reducible refine Row.chg ?_ (by with_reducible assumption) (by first | (simp; done) | (simp; omega)))))) hu1)))
    go_ret
    exact ⟨rfl, by (repeat' (first | (with_reducible assumption) | (with_reducible refine Row.at _ _ ?_; (simp; done)) | (with_reducible refine Row.alloc ?_ _) | (with_reducible refine Row.drew ?_) | (with_reducible refine Row.drewN ?_ _) | (with_reducible refine Row.other ?_ (by first | (simp; done) | (simp; omega) | omega) _) | (with_reducible refine Row.up ?_ (by with_reducible assumption)) | (with_reducible refine Row.chg ?_ (by with_reducible assumption) (by first | (simp; done) | (simp; omega))))), by (repeat' (first | (with_reducible exact Chg.refl _ _) | (with_reducible assumption) | (with_reducible refine Chg.alloc ?_ _) | (with_reducible refine Chg.drew ?_) | (with_reducible refine Chg.drewN ?_ _) | (with_reducible refine Chg.setCell ?_ ?_ _) | (with_reducible refine Chg.upc ?_ (by with_reducible assumption)) | (with_reducible refine Chg.call ?_ (by with_reducible assumption) ?_) | (refine Or.inl ?_; (simp; done)) | (simp; done) | (simp; omega) | omega))⟩

theorem names_some (i : Int) (h0 : 0 ≤ i) (h1 : i < 14) : ∃ wl : List UInt8, (if 0 ≤ i ∧ i < 14 then Font.namesL.getD i.toNat [] else []) = wl ∧ wl ≠ [] := by
  obtain ⟨n, rfl⟩ := Int.eq_ofNat_of_zero_le h0
  refine ⟨_, rfl, ?_⟩
  rw [if_pos ⟨h0, h1⟩, Int.toNat_natCast]
  have : ∀ m : Fin 14, Font.namesL.getD m.val [] ≠ [] := by decide
  exact this ⟨n, by omega⟩
/-- what SetFont answers -/
def sfE (i : Int) (m : M6) : Int := if chk (lM m) = 0 then (if 0 ≤ i ∧ i < 14 then 0 else 7) else 11

set_option maxRecDepth 8000 in
set_option maxHeartbeats 1000000 in
theorem setFont_calls (b : Nat) (c : M6) (wd ph fn : Int) (dash : Value) (fm : M6) (dk : Bool) (p : Nat) (most segs : Int) (i : Int) (m : M6) (w : World) (h : Row w b (gsC c wd dash ph fn fm dk p most segs)) (hT : Font.Tab w) :
    Calls Tryz.prog 13 #[.pointer (some ⟨b, 0, none⟩), .int .i64 i, .agg #[.int .i64 m.a, .int .i64 m.b, .int .i64 m.c, .int .i64 m.d, .int .i64 m.x, .int .i64 m.y]] w fun E w' => E = .returned (.int .i64 (sfE i m)) ∧ Row w' b (gsC c wd dash ph (if sfE i m = 0 then i else fn) (if sfE i m = 0 then m else fm) dk p most segs) ∧ Chg [b] w w' := by
  have HR := Lib.hid h
  have HT := Lib.hid hT
  have hlt := h.lt
  clear h hT
  have hv : chk (lM m) = 0 ∨ chk (lM m) = 11 := by unfold chk; split <;> simp
  rcases hv with hv | hv
  · by_cases hi : 0 ≤ i ∧ i < 14
    · rw [show sfE i m = 0 by simp [sfE, hv, hi], if_pos rfl, if_pos rfl]
      obtain ⟨wl, hw, hne⟩ := names_some i hi.1 hi.2
      have HW := Lib.hid hw
      have h2 : wl.isEmpty = false := by simpa using hne
      have HV := Lib.hid hv
      clear hv hw hi
      go_enter Tryz.func13, Tryz.ntmps13
      go_wp2_with (first
        | (go_at_call 42; ((with_reducible refine (check_calls ⟨b, 0, none⟩ (lM m) 6 w.heap.size 0 6 rfl _ (by decide) (intsAt_row (cs := #[.int .i64 m.a, .int .i64 m.b, .int .i64 m.c, .int .i64 m.d, .int .i64 m.x, .int .i64 m.y]) (by (repeat' (first | (with_reducible assumption) | (with_reducible refine Row.at _ _ ?_; (simp; done)) | (with_reducible refine Row.alloc ?_ _) | (with_reducible refine Row.drew ?_) | (with_reducible refine Row.drewN ?_ _) | (with_reducible refine Row.other ?_ (by first | (simp; done) | (simp; omega) | omega) _) | (with_reducible refine Row.up ?_ (by with_reducible assumption)) | (with_reducible refine Row.chg ?_ (by with_reducible assumption) (by first | (simp; done) | (simp; omega)))))) rfl) (by simp)).mono ?_); rw [HV.out]; rintro E w1 ⟨rfl, hu1⟩; have z1 := hu1.size; (try simp at z1); have RB := Row.up (show Row _ b (gsC c wd dash ph fn fm dk p most segs) from HR.out.alloc _) hu1; have RB_lt := RB.lt; have RM : Row w1 w.heap.size #[.int .i64 m.a, .int .i64 m.b, .int .i64 m.c, .int .i64 m.d, .int .i64 m.x, .int .i64 m.y] := Row.up (show Row _ w.heap.size #[.int .i64 m.a, .int .i64 m.b, .int .i64 m.c, .int .i64 m.d, .int .i64 m.x, .int .i64 m.y] by (repeat' (first | (with_reducible assumption) | (with_reducible refine Row.at _ _ ?_; (simp; done)) | (with_reducible refine Row.alloc ?_ _) | (with_reducible refine Row.drew ?_) | (with_reducible refine Row.drewN ?_ _) | (with_reducible refine Row.other ?_ (by first | (simp; done) | (simp; omega) | omega) _) | (with_reducible refine Row.up ?_ (by with_reducible assumption)) | (with_reducible refine Row.chg ?_ (by with_reducible assumption) (by first | (simp; done) | (simp; omega)))))) hu1))
        | (go_at_call 43; ((with_reducible refine (Font.name_calls _ _ (HT.out.up (by (repeat' (first | (with_reducible exact Up.refl _) | (with_reducible assumption) | (with_reducible refine Up.alloc ?_ _) | (with_reducible refine Up.drew ?_) | (with_reducible refine Up.drewN ?_ _) | (with_reducible refine Up.setCell ?_ ?_ _) | (with_reducible refine Up.call ?_ (by with_reducible assumption)) | go_size))))).mono ?_); rw [HW.out]; rintro E w2 ⟨rfl, rfl⟩))
        | (refine wpList_load_Row rfl 22 (.tmp 5) rfl (w.heap.size) rfl #[.int .i64 m.a, .int .i64 m.b, .int .i64 m.c, .int .i64 m.d, .int .i64 m.x, .int .i64 m.y] _ (by (repeat' (first | (with_reducible assumption) | (with_reducible refine Row.at _ _ ?_; (simp; done)) | (with_reducible refine Row.alloc ?_ _) | (with_reducible refine Row.drew ?_) | (with_reducible refine Row.drewN ?_ _) | (with_reducible refine Row.other ?_ (by first | (simp; done) | (simp; omega) | omega) _) | (with_reducible refine Row.up ?_ (by with_reducible assumption)) | (with_reducible refine Row.chg ?_ (by with_reducible assumption) (by first | (simp; done) | (simp; omega)))))) Tryz.underlying22 rfl infoA6 rfl ?_; have rb17 := RB.cell 17 rfl; have rb18 := RB.cell 18 rfl; have rb19 := RB.cell 19 rfl; have rb20 := RB.cell 20 rfl; have rb21 := RB.cell 21 rfl; have rb22 := RB.cell 22 rfl; have rb23 := RB.cell 23 rfl; have rbf17 := RB.free 17; have rbf18 := RB.free 18; have rbf19 := RB.free 19; have rbf20 := RB.free 20; have rbf21 := RB.free 21; have rbf22 := RB.free 22; have rbf23 := RB.free 23))
      go_ret
      exact ⟨rfl, (by apply cast; (case h => (repeat (first | (with_reducible assumption) | (with_reducible apply Row.at; (simp; done)) | (with_reducible apply Row.alloc) | (with_reducible apply Row.drew) | (with_reducible apply Row.drewN) | (with_reducible apply Row.set) | ((with_reducible apply Row.other); (case hp => first | (simp; done) | (simp; omega) | omega))))); (case e => rfl)), by (repeat' (first | (with_reducible exact Chg.refl _ _) | (with_reducible assumption) | (with_reducible refine Chg.alloc ?_ _) | (with_reducible refine Chg.drew ?_) | (with_reducible refine Chg.drewN ?_ _) | (with_reducible refine Chg.setCell ?_ ?_ _) | (with_reducible refine Chg.upc ?_ (by with_reducible assumption)) | (with_reducible refine Chg.call ?_ (by with_reducible assumption) ?_) | (refine Or.inl ?_; (simp; done)) | (simp; done) | (simp; omega) | omega))⟩
    · rw [show sfE i m = 7 by simp [sfE, hv, hi], if_neg (by decide), if_neg (by decide)]
      have HW := Lib.hid (show (if 0 ≤ i ∧ i < 14 then Font.namesL.getD i.toNat [] else []) = [] from if_neg hi)
      have HV := Lib.hid hv
      clear hv hi
      go_enter Tryz.func13, Tryz.ntmps13
      go_wp2_with (first
        | (go_at_call 42; ((with_reducible refine (check_calls ⟨b, 0, none⟩ (lM m) 6 w.heap.size 0 6 rfl _ (by decide) (intsAt_row (cs := #[.int .i64 m.a, .int .i64 m.b, .int .i64 m.c, .int .i64 m.d, .int .i64 m.x, .int .i64 m.y]) (by (repeat' (first | (with_reducible assumption) | (with_reducible refine Row.at _ _ ?_; (simp; done)) | (with_reducible refine Row.alloc ?_ _) | (with_reducible refine Row.drew ?_) | (with_reducible refine Row.drewN ?_ _) | (with_reducible refine Row.other ?_ (by first | (simp; done) | (simp; omega) | omega) _) | (with_reducible refine Row.up ?_ (by with_reducible assumption)) | (with_reducible refine Row.chg ?_ (by with_reducible assumption) (by first | (simp; done) | (simp; omega)))))) rfl) (by simp)).mono ?_); rw [HV.out]; rintro E w1 ⟨rfl, hu1⟩; have z1 := hu1.size; (try simp at z1); have RB := Row.up (show Row _ b (gsC c wd dash ph fn fm dk p most segs) from HR.out.alloc _) hu1; have RB_lt := RB.lt; have RM : Row w1 w.heap.size #[.int .i64 m.a, .int .i64 m.b, .int .i64 m.c, .int .i64 m.d, .int .i64 m.x, .int .i64 m.y] := Row.up (show Row _ w.heap.size #[.int .i64 m.a, .int .i64 m.b, .int .i64 m.c, .int .i64 m.d, .int .i64 m.x, .int .i64 m.y] by (repeat' (first | (with_reducible assumption) | (with_reducible refine Row.at _ _ ?_; (simp; done)) | (with_reducible refine Row.alloc ?_ _) | (with_reducible refine Row.drew ?_) | (with_reducible refine Row.drewN ?_ _) | (with_reducible refine Row.other ?_ (by first | (simp; done) | (simp; omega) | omega) _) | (with_reducible refine Row.up ?_ (by with_reducible assumption)) | (with_reducible refine Row.chg ?_ (by with_reducible assumption) (by first | (simp; done) | (simp; omega)))))) hu1))
        | (go_at_call 43; ((with_reducible refine (Font.name_calls _ _ (HT.out.up (by (repeat' (first | (with_reducible exact Up.refl _) | (with_reducible assumption) | (with_reducible refine Up.alloc ?_ _) | (with_reducible refine Up.drew ?_) | (with_reducible refine Up.drewN ?_ _) | (with_reducible refine Up.setCell ?_ ?_ _) | (with_reducible refine Up.call ?_ (by with_reducible assumption)) | go_size))))).mono ?_); rw [HW.out]; rintro E w2 ⟨rfl, rfl⟩)))
      go_ret
      exact ⟨rfl, by (repeat' (first | (with_reducible assumption) | (with_reducible refine Row.at _ _ ?_; (simp; done)) | (with_reducible refine Row.alloc ?_ _) | (with_reducible refine Row.drew ?_) | (with_reducible refine Row.drewN ?_ _) | (with_reducible refine Row.other ?_ (by first | (simp; done) | (simp; omega) | omega) _) | (with_reducible refine Row.up ?_ (by with_reducible assumption)) | (with_reducible refine Row.chg ?_ (by with_reducible assumption) (by first | (simp; done) | (simp; omega))))), by (repeat' (first | (with_reducible exact Chg.refl _ _) | (with_reducible assumption) | (with_reducible refine Chg.alloc ?_ _) | (with_reducible refine Chg.drew ?_) | (with_reducible refine Chg.drewN ?_ _) | (with_reducible refine Chg.setCell ?_ ?_ _) | (with_reducible refine Chg.upc ?_ (by with_reducible assumption)) | (with_reducible refine Chg.call ?_ (by with_reducible assumption) ?_) | (refine Or.inl ?_; (simp; done)) | (simp; done) | (simp; omega) | omega))⟩
  · rw [show sfE i m = 11 by simp [sfE, hv], if_neg (by decide), if_neg (by decide)]
    have HV := Lib.hid hv
    clear hv
    go_enter Tryz.func13, Tryz.ntmps13
    go_wp2_with (first
      | (go_at_call 42; ((with_reducible refine (check_calls ⟨b, 0, none⟩ (lM m) 6 w.heap.size 0 6 rfl _ (by decide) (intsAt_row (cs := #[.int .i64 m.a, .int .i64 m.b, .int .i64 m.c, .int .i64 m.d, .int .i64 m.x, .int .i64 m.y]) (by (repeat' (first | (with_reducible assumption) | (with_reducible refine Row.at _ _ ?_; (simp; done)) | (with_reducible refine Row.alloc ?_ _) | (with_reducible refine Row.drew ?_) | (with_reducible refine Row.drewN ?_ _) | (with_reducible refine Row.other ?_ (by first | (simp; done) | (simp; omega) | omega) _) | (with_reducible refine Row.up ?_ (by with_reducible assumption)) | (with_reducible refine Row.chg ?_ (by with_reducible assumption) (by first | (simp; done) | (simp; omega)))))) rfl) (by simp)).mono ?_); rw [HV.out]; rintro E w1 ⟨rfl, hu1⟩; have z1 := hu1.size; (try simp at z1); have RB := Row.up (show Row _ b (gsC c wd dash ph fn fm dk p most segs) from HR.out.alloc _) hu1; have RB_lt := RB.lt; have RM : Row w1 w.heap.size #[.int .i64 m.a, .int .i64 m.b, .int .i64 m.c, .int .i64 m.d, .int .i64 m.x, .int .i64 m.y] := Row.up (show Row _ w.heap.size #[.int .i64 m.a, .int .i64 m.b, .int .i64 m.c, .int .i64 m.d, .int .i64 m.x, .int .i64 m.y] by (repeat' (first | (with_reducible assumption) | (with_reducible refine Row.at _ _ ?_; (simp; done)) | (with_reducible refine Row.alloc ?_ _) | (with_reducible refine Row.drew ?_) | (with_reducible refine Row.drewN ?_ _) | (with_reducible refine Row.other ?_ (by first | (simp; done) | (simp; omega) | omega) _) | (with_reducible refine Row.up ?_ (by with_reducible assumption)) | (with_reducible refine Row.chg ?_ (by with_reducible assumption) (by first | (simp; done) | (simp; omega)))))) hu1)))
    go_ret
    exact ⟨rfl, by (repeat' (first | (with_reducible assumption) | (with_reducible refine Row.at _ _ ?_; (simp; done)) | (with_reducible refine Row.alloc ?_ _) | (with_reducible refine Row.drew ?_) | (with_reducible refine Row.drewN ?_ _) | (with_reducible refine Row.other ?_ (by first | (simp; done) | (simp; omega) | omega) _) | (with_reducible refine Row.up ?_ (by with_reducible assumption)) | (with_reducible refine Row.chg ?_ (by with_reducible assumption) (by first | (simp; done) | (simp; omega))))), by (repeat' (first | (with_reducible exact Chg.refl _ _) | (with_reducible assumption) | (with_reducible refine Chg.alloc ?_ _) | (with_reducible refine Chg.drew ?_) | (with_reducible refine Chg.drewN ?_ _) | (with_reducible refine Chg.setCell ?_ ?_ _) | (with_reducible refine Chg.upc ?_ (by with_reducible assumption)) | (with_reducible refine Chg.call ?_ (by with_reducible assumption) ?_) | (refine Or.inl ?_; (simp; done)) | (simp; done) | (simp; omega) | omega))⟩

theorem index_nil (w : World) : Calls Tryz.prog 97 #[.slice none 0 0, .func (.func 73) #[] #[]] w fun e w' => e = .returned (.int .i64 (-1)) ∧ w = w' := by
  go_enter Tryz.func97, Tryz.ntmps97
  go_wp2
  go_loop [8] (fun i => i = .int .i64 0) (fun i => 1 - (intOf i).toNat)
  case atStart => exact rfl
  case round =>
    obtain rfl := hrel
    go_wp2
    go_ret
    exact ⟨rfl, rfl⟩
theorem contains_nil (w : World) : Calls Tryz.prog 72 #[.slice none 0 0, .func (.func 73) #[] #[]] w fun e w' => e = .returned (.bool false) ∧ w = w' := by
  go_enter Tryz.func72, Tryz.ntmps72
  go_wp2_with (go_at_call 97; ((with_reducible refine (index_nil _).mono ?_); rintro E w1 ⟨rfl, rfl⟩))
  go_ret
  exact ⟨rfl, rfl⟩
theorem check_nil (g : Addr) (w : World) : Calls Tryz.prog 42 #[.pointer (some g), .slice none 0 0] w fun e w' => e = .returned (.int .i64 0) ∧ w = w' := by
  go_enter Tryz.func42, Tryz.ntmps42
  go_wp2_with (go_at_call 72; ((with_reducible refine (contains_nil _).mono ?_); rintro E w1 ⟨rfl, rfl⟩))
  go_ret
  exact ⟨rfl, rfl⟩

set_option maxRecDepth 8000 in
theorem clip_calls (b : Nat) (c : M6) (wd ph fn : Int) (dash : Value) (fm : M6) (dk : Bool) (p : Nat) (most segs : Int) (eo : Bool) (v : Value) (t : St) (w : World) (h : Row w b (gsC c wd dash ph fn fm dk p most segs)) (hp : Path.PathIs w p v t) (ht : t.l = []) :
    Calls Tryz.prog 18 #[.pointer (some ⟨b, 0, none⟩), .bool eo] w fun E w' => E = .returned (.int .i64 0) ∧ Row w' b (gsC c wd dash ph fn fm true p most segs) ∧ Chg [b] w w' := by
  have HR := Lib.hid h
  have HP := Lib.hid hp
  have HE := Lib.hid ht
  have hlt := h.lt
  have g24 : w.cell? ⟨b, 24, none⟩ = some (.slice none 0 0) := h.cell 24 rfl
  have g26 : w.cell? ⟨b, 26, none⟩ = some (.pointer (some ⟨p, 0, none⟩)) := h.cell 26 rfl
  clear h hp ht
  go_enter Tryz.func18, Tryz.ntmps18
  go_wp2_with (first
    | (go_at_call 42; ((with_reducible refine (check_nil _ _).mono ?_); rintro E w1 ⟨rfl, rfl⟩))
    | (go_at_call 35; ((with_reducible refine (Path.segments_calls p v t _ HP.out).mono ?_); rintro E w2 ⟨v', rfl, hs, hu2, -⟩; obtain ⟨a', c', rfl⟩ := Path.Segs.val hs; rw [HE.out]; have z2 := hu2.size; have RB := Row.up HR.out hu2; have RB_lt := RB.lt; have rb25 := RB.cell 25 rfl; have rbf25 := RB.free 25; clear hs)))
  go_ret
  exact ⟨rfl, (by apply cast; (case h => (repeat (first | (with_reducible assumption) | (with_reducible apply Row.at; (simp; done)) | (with_reducible apply Row.alloc) | (with_reducible apply Row.drew) | (with_reducible apply Row.drewN) | (with_reducible apply Row.set) | ((with_reducible apply Row.other); (case hp => first | (simp; done) | (simp; omega) | omega))))); (case e => rfl)), by (repeat' (first | (with_reducible exact Chg.refl _ _) | (with_reducible assumption) | (with_reducible refine Chg.alloc ?_ _) | (with_reducible refine Chg.drew ?_) | (with_reducible refine Chg.drewN ?_ _) | (with_reducible refine Chg.setCell ?_ ?_ _) | (with_reducible refine Chg.upc ?_ (by with_reducible assumption)) | (with_reducible refine Chg.call ?_ (by with_reducible assumption) ?_) | (refine Or.inl ?_; (simp; done)) | (simp; done) | (simp; omega) | omega))⟩

end Go.Proofs.YtjdbefpfjhdmoaaGreatDoor.Gs