/- Package gstate: SetMatrix, SetFont, Clip of a state in which nothing is saved and nothing clips. No condition but the fonts' names. The reference's Start, and its Clip and Move of a state whose path is empty; an empty canvas. No condition. Law 16's open. Its condition: the fonts' names lie as they are laid. How far bytes go, in package show; law 16's answers; what show says without a canvas or states. Its condition, of answers: the fonts' names lie as they are laid. Extent; law 16's answers; what show says without a canvas or states. Its condition, of answers: the fonts' names lie as they are laid. -/
import Derived.Test.YtjdbefpfjhdmoaaDoorGs2
import Derived.Test.YtjdbefpfjhdmoaaDoorPathV
import Derived.Test.YtjdbefpfjhdmoaaDoorFontT
import Derived.Test.YtjdbefpfjhdmoaaDoorArgs
import Derived.Test.YtjdbefpfjhdmoaaDoorRmat2
import Derived.Test.YtjdbefpfjhdmoaaDoorRfix
import Derived.Test.YtjdbefpfjhdmoaaDoorStep
import Derived.Deep.RegionLaw
import Derived.Deep.AppendLies
import Derived.Deep.Cut
import Derived.Deep.RegionHeld3
import Derived.Test.YtjdbefpfjhdmoaaDoorFont
import Derived.Test.YtjdbefpfjhdmoaaDoorSl
import Derived.Lib.SlBytesConst
namespace Go.Proofs.YtjdbefpfjhdmoaaDoor.ZGJ
open Go.ChangeShapes Go.WideShapes Go.ChangeAt Go.RowKit
theorem ra {w : World} {b : Nat} {cs : Array Value} (h : Row w b cs := by (repeat' (with_reducible first | assumption | (refine Row.at _ _ ?_; (simp; done)) | refine Row.alloc ?_ _ | refine Row.drew ?_ | refine Row.drewN ?_ _ | refine Row.other ?_ (by first | (simp; done) | (simp; omega) | omega) _ | refine Row.up ?_ (by assumption) | refine Row.chg ?_ (by assumption) (by first | (simp; done) | (simp; omega))))) : Row w b cs := h
theorem ua {w v : World} (h : Up w v := by (repeat' (first | (with_reducible first | exact Up.refl _ | assumption | refine Up.alloc ?_ _ | refine Up.drew ?_ | refine Up.drewN ?_ _ | refine Up.setCell ?_ ?_ _ | refine Up.call ?_ (by assumption)) | go_size))) : Up w v := h
theorem ro {w : World} {b : Nat} {cs : Array Value} (h : Row w b cs := by apply cast; (case h => (repeat (first | (with_reducible first | assumption | (apply Row.at; (simp; done)) | apply Row.alloc | apply Row.drew | apply Row.drewN | apply Row.set) | ((with_reducible apply Row.other); (case hp => first | (simp; done) | (simp; omega) | omega))))); (case e => rfl)) : Row w b cs := h
end Go.Proofs.YtjdbefpfjhdmoaaDoor.ZGJ
section
namespace Go.Proofs.YtjdbefpfjhdmoaaDoor.Gs
open Go.Proofs.YtjdbefpfjhdmoaaDoor.ZGJ
open Go.ChangeShapes Go.WideShapes Go.RowKit
open Go.Proofs.YtjdbefpfjhdmoaaDoor.FixM (fits)
open Go.Proofs.YtjdbefpfjhdmoaaDoor.MatM (M6)
open Go.Proofs.YtjdbefpfjhdmoaaDoor.PathM
set_option linter.unusedVariables false
set_option linter.unusedSimpArgs false

theorem intsAt_row {w : World} {b : Nat} {l : List Int} {cs : Array Value} (h : Row w b cs) (e : cs.toList = l.map (Value.int .i64)) : IntsAt w b 0 l := fun i p hp => by
  rw [Nat.zero_add]
  refine h.cell i ?_
  have : cs.toList[i]? = some (.int .i64 p) := by rw [e, List.getElem?_map, hp]; rfl
  simpa using this
abbrev lM (m : M6) : List Int := [m.a, m.b, m.c, m.d, m.x, m.y]
theorem infoA6 : (Tryd.prog.info? 22).map (·.size) = some 6 := by kernel_rfl

set_option maxRecDepth 8000 in
theorem setMatrix_calls (b : Nat) (c : M6) (wd ph fn : Int) (dash : Value) (fm : M6) (dk : Bool) (p : Nat) (most segs : Int) (m : M6) (w : World) (h : Row w b (gsC c wd dash ph fn fm dk p most segs)) :
    Calls Tryd.prog 22 #[.pointer (some ⟨b, 0, none⟩), .agg #[.int .i64 m.a, .int .i64 m.b, .int .i64 m.c, .int .i64 m.d, .int .i64 m.x, .int .i64 m.y]] w fun E w' => E = .returned (.int .i64 (chk (lM m))) ∧ Row w' b (gsC (if chk (lM m) = 0 then m else c) wd dash ph fn fm dk p most segs) ∧ Chg [b] w w' := by
  have HR := Lib.hid h
  have hlt := h.lt
  clear h
  have hv : chk (lM m) = 0 ∨ chk (lM m) = 11 := by unfold chk; split <;> simp
  rcases hv with hv | hv
  · rw [hv, if_pos rfl]
    have HV := Lib.hid hv
    clear hv
    go_enter Tryd.func22, Tryd.ntmps22
    go_wp2_with (first
      | (go_at_call 44; ((with_reducible refine (check_calls ⟨b, 0, none⟩ (lM m) 6 w.heap.size 0 6 rfl _ (by decide) (intsAt_row (cs := #[.int .i64 m.a, .int .i64 m.b, .int .i64 m.c, .int .i64 m.d, .int .i64 m.x, .int .i64 m.y]) (by exact ra) rfl) (by simp)).mono ?_); rw [HV.out]; rintro E w1 ⟨rfl, hu1⟩; have z1 := hu1.size; (try simp at z1); have RB := Row.up (show Row _ b (gsC c wd dash ph fn fm dk p most segs) from HR.out.alloc _) hu1; have RB_lt := RB.lt; have RM : Row w1 w.heap.size #[.int .i64 m.a, .int .i64 m.b, .int .i64 m.c, .int .i64 m.d, .int .i64 m.x, .int .i64 m.y] := Row.up (show Row _ w.heap.size #[.int .i64 m.a, .int .i64 m.b, .int .i64 m.c, .int .i64 m.d, .int .i64 m.x, .int .i64 m.y] by exact ra) hu1))
      | (refine wpList_load_Row rfl 22 (.tmp 3) rfl (w.heap.size) rfl #[.int .i64 m.a, .int .i64 m.b, .int .i64 m.c, .int .i64 m.d, .int .i64 m.x, .int .i64 m.y] _ (by exact ra) Tryd.underlying22 rfl infoA6 rfl ?_; have rb0 := RB.cell 0 rfl; have rb1 := RB.cell 1 rfl; have rb2 := RB.cell 2 rfl; have rb3 := RB.cell 3 rfl; have rb4 := RB.cell 4 rfl; have rb5 := RB.cell 5 rfl; have rbf0 := RB.free 0; have rbf1 := RB.free 1; have rbf2 := RB.free 2; have rbf3 := RB.free 3; have rbf4 := RB.free 4; have rbf5 := RB.free 5))
    go_ret
    exact ⟨rfl, (by exact ro), by (repeat' (first | (with_reducible first | exact Chg.refl _ _ | assumption | refine Chg.alloc ?_ _ | refine Chg.drew ?_ | refine Chg.drewN ?_ _ | refine Chg.setCell ?_ ?_ _ | refine Chg.upc ?_ (by assumption) | refine Chg.call ?_ (by assumption) ?_) | (refine Or.inl ?_; (simp; done)) | (simp; done) | (simp; omega) | omega))⟩
  · rw [hv, if_neg (by decide)]
    have HV := Lib.hid hv
    clear hv
    go_enter Tryd.func22, Tryd.ntmps22
    go_wp2_with (first
      | (go_at_call 44; ((with_reducible refine (check_calls ⟨b, 0, none⟩ (lM m) 6 w.heap.size 0 6 rfl _ (by decide) (intsAt_row (cs := #[.int .i64 m.a, .int .i64 m.b, .int .i64 m.c, .int .i64 m.d, .int .i64 m.x, .int .i64 m.y]) (by exact ra) rfl) (by simp)).mono ?_); rw [HV.out]; rintro E w1 ⟨rfl, hu1⟩; have z1 := hu1.size; (try simp at z1); have RB := Row.up (show Row _ b (gsC c wd dash ph fn fm dk p most segs) from HR.out.alloc _) hu1; have RB_lt := RB.lt; have RM : Row w1 w.heap.size #[.int .i64 m.a, .int .i64 m.b, .int .i64 m.c, .int .i64 m.d, .int .i64 m.x, .int .i64 m.y] := Row.up (show Row _ w.heap.size #[.int .i64 m.a, .int .i64 m.b, .int .i64 m.c, .int .i64 m.d, .int .i64 m.x, .int .i64 m.y] by exact ra) hu1)))
    go_ret
    exact ⟨rfl, by exact ra, by (repeat' (first | (with_reducible first | exact Chg.refl _ _ | assumption | refine Chg.alloc ?_ _ | refine Chg.drew ?_ | refine Chg.drewN ?_ _ | refine Chg.setCell ?_ ?_ _ | refine Chg.upc ?_ (by assumption) | refine Chg.call ?_ (by assumption) ?_) | (refine Or.inl ?_; (simp; done)) | (simp; done) | (simp; omega) | omega))⟩

theorem names_some (i : Int) (h0 : 0 ≤ i) (h1 : i < 14) : ∃ wl : List UInt8, (if 0 ≤ i ∧ i < 14 then Font.namesL.getD i.toNat [] else []) = wl ∧ wl ≠ [] := by
  obtain ⟨n, rfl⟩ := Int.eq_ofNat_of_zero_le h0
  refine ⟨_, rfl, ?_⟩
  rw [if_pos ⟨h0, h1⟩, Int.toNat_natCast]
  have : ∀ m : Fin 14, Font.namesL.getD m.val [] ≠ [] := by decide
  exact this ⟨n, by omega⟩
/-- what SetFont answers -/
def sfE (i : Int) (m : M6) : Int := if chk (lM m) = 0 then (if 0 ≤ i ∧ i < 14 then 0 else 7) else 11

set_option maxRecDepth 8000 in
set_option maxHeartbeats 1000000 in
theorem setFont_calls (b : Nat) (c : M6) (wd ph fn : Int) (dash : Value) (fm : M6) (dk : Bool) (p : Nat) (most segs : Int) (i : Int) (m : M6) (w : World) (h : Row w b (gsC c wd dash ph fn fm dk p most segs)) (hT : Font.Tab w) :
    Calls Tryd.prog 19 #[.pointer (some ⟨b, 0, none⟩), .int .i64 i, .agg #[.int .i64 m.a, .int .i64 m.b, .int .i64 m.c, .int .i64 m.d, .int .i64 m.x, .int .i64 m.y]] w fun E w' => E = .returned (.int .i64 (sfE i m)) ∧ Row w' b (gsC c wd dash ph (if sfE i m = 0 then i else fn) (if sfE i m = 0 then m else fm) dk p most segs) ∧ Chg [b] w w' := by
  have HR := Lib.hid h
  have HT := Lib.hid hT
  have hlt := h.lt
  clear h hT
  have hv : chk (lM m) = 0 ∨ chk (lM m) = 11 := by unfold chk; split <;> simp
  rcases hv with hv | hv
  · by_cases hi : 0 ≤ i ∧ i < 14
    · rw [show sfE i m = 0 by simp [sfE, hv, hi], if_pos rfl, if_pos rfl]
      obtain ⟨wl, hw, hne⟩ := names_some i hi.1 hi.2
      have HW := Lib.hid hw
      have h2 : wl.isEmpty = false := by simpa using hne
      have HV := Lib.hid hv
      clear hv hw hi
      go_enter Tryd.func19, Tryd.ntmps19
      go_wp2_with (first
        | (go_at_call 44; ((with_reducible refine (check_calls ⟨b, 0, none⟩ (lM m) 6 w.heap.size 0 6 rfl _ (by decide) (intsAt_row (cs := #[.int .i64 m.a, .int .i64 m.b, .int .i64 m.c, .int .i64 m.d, .int .i64 m.x, .int .i64 m.y]) (by exact ra) rfl) (by simp)).mono ?_); rw [HV.out]; rintro E w1 ⟨rfl, hu1⟩; have z1 := hu1.size; (try simp at z1); have RB := Row.up (show Row _ b (gsC c wd dash ph fn fm dk p most segs) from HR.out.alloc _) hu1; have RB_lt := RB.lt; have RM : Row w1 w.heap.size #[.int .i64 m.a, .int .i64 m.b, .int .i64 m.c, .int .i64 m.d, .int .i64 m.x, .int .i64 m.y] := Row.up (show Row _ w.heap.size #[.int .i64 m.a, .int .i64 m.b, .int .i64 m.c, .int .i64 m.d, .int .i64 m.x, .int .i64 m.y] by exact ra) hu1))
        | (go_at_call 45; ((with_reducible refine (Font.name_calls _ _ (HT.out.up (by exact ua))).mono ?_); rw [HW.out]; rintro E w2 ⟨rfl, rfl⟩))
        | (refine wpList_load_Row rfl 22 (.tmp 5) rfl (w.heap.size) rfl #[.int .i64 m.a, .int .i64 m.b, .int .i64 m.c, .int .i64 m.d, .int .i64 m.x, .int .i64 m.y] _ (by exact ra) Tryd.underlying22 rfl infoA6 rfl ?_; have rb17 := RB.cell 17 rfl; have rb18 := RB.cell 18 rfl; have rb19 := RB.cell 19 rfl; have rb20 := RB.cell 20 rfl; have rb21 := RB.cell 21 rfl; have rb22 := RB.cell 22 rfl; have rb23 := RB.cell 23 rfl; have rbf17 := RB.free 17; have rbf18 := RB.free 18; have rbf19 := RB.free 19; have rbf20 := RB.free 20; have rbf21 := RB.free 21; have rbf22 := RB.free 22; have rbf23 := RB.free 23))
      go_ret
      exact ⟨rfl, (by exact ro), by (repeat' (first | (with_reducible first | exact Chg.refl _ _ | assumption | refine Chg.alloc ?_ _ | refine Chg.drew ?_ | refine Chg.drewN ?_ _ | refine Chg.setCell ?_ ?_ _ | refine Chg.upc ?_ (by assumption) | refine Chg.call ?_ (by assumption) ?_) | (refine Or.inl ?_; (simp; done)) | (simp; done) | (simp; omega) | omega))⟩
    · rw [show sfE i m = 7 by simp [sfE, hv, hi], if_neg (by decide), if_neg (by decide)]
      have HW := Lib.hid (show (if 0 ≤ i ∧ i < 14 then Font.namesL.getD i.toNat [] else []) = [] from if_neg hi)
      have HV := Lib.hid hv
      clear hv hi
      go_enter Tryd.func19, Tryd.ntmps19
      go_wp2_with (first
        | (go_at_call 44; ((with_reducible refine (check_calls ⟨b, 0, none⟩ (lM m) 6 w.heap.size 0 6 rfl _ (by decide) (intsAt_row (cs := #[.int .i64 m.a, .int .i64 m.b, .int .i64 m.c, .int .i64 m.d, .int .i64 m.x, .int .i64 m.y]) (by exact ra) rfl) (by simp)).mono ?_); rw [HV.out]; rintro E w1 ⟨rfl, hu1⟩; have z1 := hu1.size; (try simp at z1); have RB := Row.up (show Row _ b (gsC c wd dash ph fn fm dk p most segs) from HR.out.alloc _) hu1; have RB_lt := RB.lt; have RM : Row w1 w.heap.size #[.int .i64 m.a, .int .i64 m.b, .int .i64 m.c, .int .i64 m.d, .int .i64 m.x, .int .i64 m.y] := Row.up (show Row _ w.heap.size #[.int .i64 m.a, .int .i64 m.b, .int .i64 m.c, .int .i64 m.d, .int .i64 m.x, .int .i64 m.y] by exact ra) hu1))
        | (go_at_call 45; ((with_reducible refine (Font.name_calls _ _ (HT.out.up (by exact ua))).mono ?_); rw [HW.out]; rintro E w2 ⟨rfl, rfl⟩)))
      go_ret
      exact ⟨rfl, by exact ra, by (repeat' (first | (with_reducible first | exact Chg.refl _ _ | assumption | refine Chg.alloc ?_ _ | refine Chg.drew ?_ | refine Chg.drewN ?_ _ | refine Chg.setCell ?_ ?_ _ | refine Chg.upc ?_ (by assumption) | refine Chg.call ?_ (by assumption) ?_) | (refine Or.inl ?_; (simp; done)) | (simp; done) | (simp; omega) | omega))⟩
  · rw [show sfE i m = 11 by simp [sfE, hv], if_neg (by decide), if_neg (by decide)]
    have HV := Lib.hid hv
    clear hv
    go_enter Tryd.func19, Tryd.ntmps19
    go_wp2_with (first
      | (go_at_call 44; ((with_reducible refine (check_calls ⟨b, 0, none⟩ (lM m) 6 w.heap.size 0 6 rfl _ (by decide) (intsAt_row (cs := #[.int .i64 m.a, .int .i64 m.b, .int .i64 m.c, .int .i64 m.d, .int .i64 m.x, .int .i64 m.y]) (by exact ra) rfl) (by simp)).mono ?_); rw [HV.out]; rintro E w1 ⟨rfl, hu1⟩; have z1 := hu1.size; (try simp at z1); have RB := Row.up (show Row _ b (gsC c wd dash ph fn fm dk p most segs) from HR.out.alloc _) hu1; have RB_lt := RB.lt; have RM : Row w1 w.heap.size #[.int .i64 m.a, .int .i64 m.b, .int .i64 m.c, .int .i64 m.d, .int .i64 m.x, .int .i64 m.y] := Row.up (show Row _ w.heap.size #[.int .i64 m.a, .int .i64 m.b, .int .i64 m.c, .int .i64 m.d, .int .i64 m.x, .int .i64 m.y] by exact ra) hu1)))
    go_ret
    exact ⟨rfl, by exact ra, by (repeat' (first | (with_reducible first | exact Chg.refl _ _ | assumption | refine Chg.alloc ?_ _ | refine Chg.drew ?_ | refine Chg.drewN ?_ _ | refine Chg.setCell ?_ ?_ _ | refine Chg.upc ?_ (by assumption) | refine Chg.call ?_ (by assumption) ?_) | (refine Or.inl ?_; (simp; done)) | (simp; done) | (simp; omega) | omega))⟩

theorem index_nil (w : World) : Calls Tryd.prog 92 #[.slice none 0 0, .func (.func 71) #[] #[]] w fun e w' => e = .returned (.int .i64 (-1)) ∧ w = w' := by
  go_enter Tryd.func92, Tryd.ntmps92
  go_wp2
  go_loop [8] (fun i => i = .int .i64 0) (fun i => 1 - (intOf i).toNat)
  case atStart => exact rfl
  case round =>
    obtain rfl := hrel
    go_wp2
    go_ret
    exact ⟨rfl, rfl⟩
theorem contains_nil (w : World) : Calls Tryd.prog 70 #[.slice none 0 0, .func (.func 71) #[] #[]] w fun e w' => e = .returned (.bool false) ∧ w = w' := by
  go_enter Tryd.func70, Tryd.ntmps70
  go_wp2_with (go_at_call 92; ((with_reducible refine (index_nil _).mono ?_); rintro E w1 ⟨rfl, rfl⟩))
  go_ret
  exact ⟨rfl, rfl⟩
theorem check_nil (g : Addr) (w : World) : Calls Tryd.prog 44 #[.pointer (some g), .slice none 0 0] w fun e w' => e = .returned (.int .i64 0) ∧ w = w' := by
  go_enter Tryd.func44, Tryd.ntmps44
  go_wp2_with (go_at_call 70; ((with_reducible refine (contains_nil _).mono ?_); rintro E w1 ⟨rfl, rfl⟩))
  go_ret
  exact ⟨rfl, rfl⟩

set_option maxRecDepth 8000 in
theorem clip_calls (b : Nat) (c : M6) (wd ph fn : Int) (dash : Value) (fm : M6) (dk : Bool) (p : Nat) (most segs : Int) (eo : Bool) (v : Value) (t : St) (w : World) (h : Row w b (gsC c wd dash ph fn fm dk p most segs)) (hp : Path.PathIs w p v t) (ht : t.l = []) :
    Calls Tryd.prog 23 #[.pointer (some ⟨b, 0, none⟩), .bool eo] w fun E w' => E = .returned (.int .i64 0) ∧ Row w' b (gsC c wd dash ph fn fm true p most segs) ∧ Chg [b] w w' := by
  have HR := Lib.hid h
  have HP := Lib.hid hp
  have HE := Lib.hid ht
  have hlt := h.lt
  have g24 : w.cell? ⟨b, 24, none⟩ = some (.slice none 0 0) := h.cell 24 rfl
  have g26 : w.cell? ⟨b, 26, none⟩ = some (.pointer (some ⟨p, 0, none⟩)) := h.cell 26 rfl
  clear h hp ht
  go_enter Tryd.func23, Tryd.ntmps23
  go_wp2_with (first
    | (go_at_call 44; ((with_reducible refine (check_nil _ _).mono ?_); rintro E w1 ⟨rfl, rfl⟩))
    | (go_at_call 17; ((with_reducible refine (Path.segments_calls p v t _ HP.out).mono ?_); rintro E w2 ⟨v', rfl, hs, hu2, -⟩; obtain ⟨a', c', rfl⟩ := Path.Segs.val hs; rw [HE.out]; have z2 := hu2.size; have RB := Row.up HR.out hu2; have RB_lt := RB.lt; have rb25 := RB.cell 25 rfl; have rbf25 := RB.free 25; clear hs)))
  go_ret
  exact ⟨rfl, (by exact ro), by (repeat' (first | (with_reducible first | exact Chg.refl _ _ | assumption | refine Chg.alloc ?_ _ | refine Chg.drew ?_ | refine Chg.drewN ?_ _ | refine Chg.setCell ?_ ?_ _ | refine Chg.upc ?_ (by assumption) | refine Chg.call ?_ (by assumption) ?_) | (refine Or.inl ?_; (simp; done)) | (simp; done) | (simp; omega) | omega))⟩

end Go.Proofs.YtjdbefpfjhdmoaaDoor.Gs
end

section
namespace Go.Proofs.YtjdbefpfjhdmoaaDoor.Sh
open Go.Proofs.YtjdbefpfjhdmoaaDoor.ZGJ
open Go.ChangeShapes Go.WideShapes Go.ChangeAt Go.RowKit
open Go.Proofs.YtjdbefpfjhdmoaaDoor.Gs
open Go.Proofs.YtjdbefpfjhdmoaaDoor.FixM (fits)
open Go.Proofs.YtjdbefpfjhdmoaaDoor.MatM (M6)
open Go.Proofs.YtjdbefpfjhdmoaaDoor.PathM
open Go.Proofs.YtjdbefpfjhdmoaaDoor.Path
set_option linter.unusedVariables false
set_option linter.unusedSimpArgs false

theorem cast {w : World} {b : Nat} {cs cs2 : Array Value} (h : Row w b cs) (e : cs = cs2) : Row w b cs2 := e ▸ h
/-- the reference's state: nothing clips, its pen is as at first -/
def rsC (c : M6) (fn : Int) (fm : M6) (dk : Bool) (n : Int) (l : Value) : Array Value := #[.int .i64 c.a, .int .i64 c.b, .int .i64 c.c, .int .i64 c.d, .int .i64 c.x, .int .i64 c.y, .int .i64 1, .int .i64 0, .int .i64 0, .int .i64 0, .int .i64 0, .int .i64 65536, .int .i64 0, .int .i64 0, .int .i64 655360, .slice none 0 0, .int .i64 0, .int .i64 fn, .int .i64 fm.a, .int .i64 fm.b, .int .i64 fm.c, .int .i64 fm.d, .int .i64 fm.x, .int .i64 fm.y, .slice none 0 0, .bool dk, .int .i64 n, l]
theorem infoRs : (Tryd.prog.info? 42).map (·.size) = some 28 := by kernel_rfl
theorem results_rs {fn : Func} {i : Nat} (h : fn.results = #[.cell i 42]) (tmps : Array Value) (w : World) (b : Nat) (cs : Array Value) (hr : Row w b cs) (hs : cs.size = 28) (e : tmps.getD i undef = .pointer (some ⟨b, 0, none⟩)) :
    (results fn tmps).run Tryd.prog w = .ok (.agg cs) w := by
  rw [Array.getD_eq_getD_getElem?] at e
  have hl := run_loadAt_mid (P := Tryd.prog) w b 0 42 cs.toList _ (fun j v hj => by rw [Nat.zero_add]; exact hr.cell j (by simpa using hj)) Tryd.underlying42 rfl (by rw [Array.length_toList, hs]; kernel_rfl)
  simp [results, h, go_sem, e] at hl ⊢
  exact hl
set_option maxRecDepth 8000 in
theorem rstart_calls (n : Int) (w : World) : Calls Tryd.prog 21 #[.int .i64 n] w fun E w' => E = .returned (.agg #[.int .i64 65536, .int .i64 0, .int .i64 0, .int .i64 65536, .int .i64 0, .int .i64 0, .int .i64 1, .int .i64 0, .int .i64 0, .int .i64 0, .int .i64 0, .int .i64 65536, .int .i64 0, .int .i64 0, .int .i64 655360, .slice none 0 0, .int .i64 0, .int .i64 (-1), .int .i64 65536, .int .i64 0, .int .i64 0, .int .i64 65536, .int .i64 0, .int .i64 0, .slice none 0 0, .bool false, .int .i64 n, .slice none 0 0]) ∧ Up w w' := by
  go_enter Tryd.func21, Tryd.ntmps21
  go_wp2_with (first
    | (go_at_call 47; ((with_reducible refine (Mat2.ridentity_calls _).mono ?_); rintro E w1 ⟨rfl, hu1⟩; have RZ1 : Row w1 w.heap.size #[.int .i64 0, .int .i64 0, .int .i64 0, .int .i64 0, .int .i64 0, .int .i64 0, .int .i64 0, .int .i64 0, .int .i64 0, .int .i64 0, .int .i64 0, .int .i64 0, .int .i64 0, .int .i64 0, .int .i64 0, .slice none 0 0, .int .i64 0, .int .i64 0, .int .i64 0, .int .i64 0, .int .i64 0, .int .i64 0, .int .i64 0, .int .i64 0, .slice none 0 0, .bool false, .int .i64 0, .slice none 0 0] := Row.up (show Row _ w.heap.size #[.int .i64 0, .int .i64 0, .int .i64 0, .int .i64 0, .int .i64 0, .int .i64 0, .int .i64 0, .int .i64 0, .int .i64 0, .int .i64 0, .int .i64 0, .int .i64 0, .int .i64 0, .int .i64 0, .int .i64 0, .slice none 0 0, .int .i64 0, .int .i64 0, .int .i64 0, .int .i64 0, .int .i64 0, .int .i64 0, .int .i64 0, .int .i64 0, .slice none 0 0, .bool false, .int .i64 0, .slice none 0 0] by exact ra) hu1; have z1 := hu1.size; (try simp at z1)))
    | (go_at_call 47; ((with_reducible refine (Mat2.ridentity_calls _).mono ?_); rintro E w2 ⟨rfl, hu2⟩; have RZ2 := RZ1.up hu2; have z2 := hu2.size; (try simp at z2)))
    | ((refine wpList_store_Row rfl 42 (.tmp 2) _ rfl (w.heap.size) #[.int .i64 65536, .int .i64 0, .int .i64 0, .int .i64 65536, .int .i64 0, .int .i64 0, .int .i64 1, .int .i64 0, .int .i64 0, .int .i64 0, .int .i64 0, .int .i64 65536, .int .i64 0, .int .i64 0, .int .i64 655360, .slice none 0 0, .int .i64 0, .int .i64 (-1), .int .i64 65536, .int .i64 0, .int .i64 0, .int .i64 65536, .int .i64 0, .int .i64 0, .slice none 0 0, .bool false, .int .i64 n, .slice none 0 0] rfl rfl #[.int .i64 0, .int .i64 0, .int .i64 0, .int .i64 0, .int .i64 0, .int .i64 0, .int .i64 0, .int .i64 0, .int .i64 0, .int .i64 0, .int .i64 0, .int .i64 0, .int .i64 0, .int .i64 0, .int .i64 0, .slice none 0 0, .int .i64 0, .int .i64 0, .int .i64 0, .int .i64 0, .int .i64 0, .int .i64 0, .int .i64 0, .int .i64 0, .slice none 0 0, .bool false, .int .i64 0, .slice none 0 0] (by exact ra) infoRs rfl rfl (by simp [Value.oneCell']) ?_); intro w9 hr_w9 hc_w9))
  (try simp only [Exit.inBlock, Exit.then])
  refine bodyPost_ret (results_rs rfl _ _ w.heap.size #[.int .i64 65536, .int .i64 0, .int .i64 0, .int .i64 65536, .int .i64 0, .int .i64 0, .int .i64 1, .int .i64 0, .int .i64 0, .int .i64 0, .int .i64 0, .int .i64 65536, .int .i64 0, .int .i64 0, .int .i64 655360, .slice none 0 0, .int .i64 0, .int .i64 (-1), .int .i64 65536, .int .i64 0, .int .i64 0, .int .i64 65536, .int .i64 0, .int .i64 0, .slice none 0 0, .bool false, .int .i64 n, .slice none 0 0] (by exact ra) rfl rfl) rfl ?_
  exact ⟨rfl, (show Chg [] w w9 by (repeat' (first | (with_reducible first | exact Chg.refl _ _ | assumption | refine Chg.alloc ?_ _ | refine Chg.drew ?_ | refine Chg.drewN ?_ _ | refine Chg.setCell ?_ ?_ _ | refine Chg.upc ?_ (by assumption) | refine Chg.call ?_ (by assumption) ?_) | (refine Or.inl ?_; (simp; done)) | (simp; done) | (simp; omega) | omega))).up⟩

set_option maxRecDepth 8000 in
theorem rclip_calls (b : Nat) (c : M6) (fn : Int) (fm : M6) (dk : Bool) (n : Int) (x : Bool) (w : World) (h : Row w b (rsC c fn fm dk n (.slice none 0 0))) :
    Calls Tryd.prog 24 #[.pointer (some ⟨b, 0, none⟩), .bool x] w fun E w' => E = .returned (.int .i64 0) ∧ Row w' b (rsC c fn fm true n (.slice none 0 0)) ∧ Chg [b] w w' := by
  have HR := Lib.hid h
  have q24 : w.cell? ⟨b, 24, none⟩ = some (.slice none 0 0) := h.cell 24 rfl
  have q27 : w.cell? ⟨b, 27, none⟩ = some (.slice none 0 0) := h.cell 27 rfl
  have q25 : w.cell? ⟨b, 25, none⟩ = some (.bool dk) := h.cell 25 rfl
  have f25 := h.free 25
  have RB := h
  clear h
  go_enter Tryd.func24, Tryd.ntmps24
  go_wp2
  go_ret
  exact ⟨rfl, (by exact ro), by (repeat' (first | (with_reducible first | exact Chg.refl _ _ | assumption | refine Chg.alloc ?_ _ | refine Chg.drew ?_ | refine Chg.drewN ?_ _ | refine Chg.setCell ?_ ?_ _ | refine Chg.upc ?_ (by assumption) | refine Chg.call ?_ (by assumption) ?_) | (refine Or.inl ?_; (simp; done)) | (simp; done) | (simp; omega) | omega))⟩

set_option maxRecDepth 8000 in
theorem pnew_calls (w : World) :
    Calls Tryd.prog 20 #[.int .i64 6553600, .int .i64 6553600, .int .i64 2] w fun E w' => ∃ b, E = .returned (.tuple #[.pointer (some ⟨b, 0, none⟩), .int .i64 0]) ∧ w.heap.size ≤ b ∧ Row w' b #[.int .i64 6553600, .int .i64 6553600, .slice none 0 0, .int .i64 2, .slice none 0 0] ∧ Up w w' := by
  have hs : ∀ w : World, Calls Tryd.prog 46 #[.int .i64 6553600] w fun E w' => E = .returned (.bool true) ∧ w = w' := by
    intro w
    go_enter Tryd.func46, Tryd.ntmps46
    go_wp2
    go_ret
    exact ⟨rfl, rfl⟩
  have HS := Lib.hid hs
  clear hs
  go_enter Tryd.func20, Tryd.ntmps20
  go_wp2_with (go_at_call 46; ((with_reducible refine (HS.out _).mono ?_); rintro E w1 ⟨rfl, rfl⟩))
  go_returns
  exact ⟨w.heap.size, rfl, Nat.le_refl _, by exact ra, by exact ua⟩

theorem fitsPoint_calls (x y : Int) (w : World) :
    Calls Tryd.prog 52 #[.agg #[.int .i64 x, .int .i64 y]] w fun e w' => e = .returned (.bool (fitsP (x, y))) ∧ w' = w.alloc (.cells #[.int .i64 x, .int .i64 y] 24) := by
  by_cases h1 : fits x = true
  · have H := Lib.hid (show fitsP (x, y) = fits y by simp [fitsP, h1])
    go_enter Tryd.func52, Tryd.ntmps52
    go_wp2_with (first
      | (go_at_call 31; ((with_reducible refine (Rfix.fits_calls _ _).mono ?_); rintro E w1 ⟨rfl, rfl⟩; (try rw [h1]))))
    go_ret
    exact ⟨by rw [H.out]; rfl, rfl⟩
  · have h1 : fits x = false := by simpa using h1
    have H := Lib.hid (show fitsP (x, y) = false by simp [fitsP, h1])
    go_enter Tryd.func52, Tryd.ntmps52
    go_wp2_with (first
      | (go_at_call 31; ((with_reducible refine (Rfix.fits_calls _ _).mono ?_); rintro E w1 ⟨rfl, rfl⟩; (try rw [h1]))))
    go_ret
    exact ⟨by rw [H.out]; rfl, rfl⟩

theorem news_at {w : World} {g : Nat} {cs : Array Value} {l : List Value} (h : Row w g cs) (e : cs.toList = l) : ∀ j u, l[j]? = some u → w.cell? ((⟨g, 0, none⟩ : Addr).add j) = some u := fun j u hu => by
  rw [add_plain, Nat.zero_add]
  exact h.cell j (by subst e; simpa using hu)
theorem made_at {w : World} {g : Nat} (e : g = w.heap.size) : (w.alloc (.cells #[] 97)).ownsRow 0 97 7 (.slice (some ⟨g, 0, none⟩) 0 0) 0 [] := by
  subst e
  exact World.ownsRow_made w #[] 0 (Nat.zero_le _) (by decide) rfl
theorem raw_up {w w1 : World} {e : TypeId} {k : Nat} {v : Value} {n : Nat} {xs : List Value} (h : w.ownsRow 0 e k v n xs) (hc : Up w w1) : w1.ownsRow 0 e k v n xs := by
  refine ⟨h.1, ?_⟩
  rcases h.2 with h1 | ⟨g, cap, cur, hv, hb, hg, hr⟩
  · exact Or.inl h1
  · refine Or.inr ⟨g, cap, cur, hv, hb, ?_, hr⟩
    rw [hc.block g (Array.getElem?_eq_some_iff.1 hg).1]
    exact hg
theorem made_any {P : Prop} (h : P) : P := h
/-- what Move leaves of the reference's state -/
def Moved (w : World) (b : Nat) (c : M6) (fn : Int) (fm : M6) (dk : Bool) (n x y : Int) (w' : World) : Prop := ∃ v, Row w' b (rsC c fn fm dk n v) ∧ Segs w' v [⟨1, (x, y), Z, Z⟩] ∧ Chg [b] w w' ∧ ∀ g, v.ownBlock = some g → w.heap.size ≤ g
theorem Moved.stored {w wa w2 : World} {b g2 c2 H : Nat} {va : Value} {c : M6} {fn : Int} {fm : M6} {dk : Bool} {n x y : Int} (h : Row w b (rsC c fn fm dk n (.slice none 0 0))) (hua : Up w wa) (hva : ∀ g, va.ownBlock = some g → w.heap.size ≤ g) (hc : Chg (own va) wa w2)
    (hat : va.ownBlock = some g2 ∨ g2 = H) (hH : wa.heap.size ≤ H) (ho : w2.ownsRow 0 97 7 (.slice (some ⟨g2, 0, none⟩) 1 c2) 1 (segCells [⟨1, (x, y), Z, Z⟩])) :
    Moved w b c fn fm dk n x y (w2.setCell ⟨b, 27, none⟩ (.slice (some ⟨g2, 0, none⟩) 1 c2)) := by
  have hb := h.lt
  have hz := hua.size
  have hgw : w.heap.size ≤ g2 := by
    rcases hat with h1 | h1
    · exact hva g2 h1
    · omega
  have hC : Chg [] w w2 := (Chg.of_up hua).call hc (fun x hx => Or.inr (hva x (own_of hx)))
  have hR : Row w2 b _ := h.chg hC (by simp)
  refine ⟨.slice (some ⟨g2, 0, none⟩) 1 c2, Row.put hR rfl, ?_, (hC.mono (by simp)).setCell (Or.inl (by simp)) _, fun g hg => by simp only [Value.ownBlock, Option.some.injEq] at hg; omega⟩
  exact ownsRow_setCell_other ho (fun e => by simp only [Value.ownBlock, Option.some.injEq] at e; omega) _

set_option maxRecDepth 8000 in
set_option maxHeartbeats 2000000 in
theorem rmove_calls (b : Nat) (c : M6) (fn : Int) (fm : M6) (dk : Bool) (n x y : Int) (hn : 1 ≤ n) (w : World) (h : Row w b (rsC c fn fm dk n (.slice none 0 0))) :
    Calls Tryd.prog 26 #[.pointer (some ⟨b, 26, none⟩), .agg #[.int .i64 x, .int .i64 y]] w fun E w' => (fitsP (x, y) = true ∧ E = .returned (.int .i64 0) ∧ Moved w b c fn fm dk n x y w') ∨ (fitsP (x, y) = false ∧ E = .returned (.int .i64 11) ∧ Up w w') := by
  have hlt := h.lt
  have q0 : w.cell? ⟨b, 26, none⟩ = some (.int .i64 n) := h.cell 26 rfl
  have q1 : w.cell? ⟨b, 27, none⟩ = some (.slice none 0 0) := h.cell 27 rfl
  have HR := Lib.hid h
  obtain ⟨i0, ji, jz0, jz1, jz2⟩ := info_parts infoSeg
  have hb1 : b < w.heap.size + 1 := by omega
  have hb2 : b < w.heap.size + 1 + 1 := by omega
  have hb3 : b < w.heap.size + 1 + 1 + 1 := by omega
  have hb4 : b < w.heap.size + 1 + 1 + 1 + 1 := by omega
  have hb5 : b < w.heap.size + 1 + 1 + 1 + 1 + 1 := by omega
  clear h
  by_cases hf : fitsP (x, y) = true
  · refine Calls.mono (R := fun E w' => E = .returned (.int .i64 0) ∧ Moved w b c fn fm dk n x y w') ?_ (fun E w' h2 => Or.inl ⟨hf, h2⟩)
    have HF := Lib.hid hf
    have dm : decide (n < 1) = false := decide_eq_false (by omega)
    clear hf
    go_enter Tryd.func26, Tryd.ntmps26
    go_wp2_with (go_at_call 52; ((with_reducible refine (fitsPoint_calls _ _ _).mono ?_); rintro E w1 ⟨rfl, rfl⟩; rw [HF.out]))
    go_region_law (first
      | (refine step_append_lies _ rfl (.tmp 60) (.tmp 62) 38 rfl 0 97 i0 _ 7 56 Tryd.underlying38 ji jz0 jz1 jz2 rfl (by decide) (.slice (some ⟨w.heap.size + 1 + 1 + 1 + 1, 0, none⟩) 0 0) 0 [] rfl (made_any (by first | exact made_at (by simp) | exact raw_up (made_at (by simp)) (Up.drew (Up.refl _)) | exact raw_up (made_at (by simp)) (Up.drew (Up.alloc (Up.refl _) _)) | exact raw_up (made_at (by simp)) (Up.alloc (Up.refl _) _))) _ 1 1 (segCells [⟨1, (x, y), Z, Z⟩]) rfl rfl (news_at (show Row _ _ #[.int .i64 1, .int .i64 x, .int .i64 y, .int .i64 0, .int .i64 0, .int .i64 0, .int .i64 0] by exact ra) rfl) (segCells_one _) (by decide) (by decide) (by decide) (Nat.zero_le _) _ rfl ?_; intro g2 c2 w2 hown hgr hat hg1; have HST := Lib.hid (Moved.stored HR.out (show Up w _ by exact ua) (fun g hg => by simp only [Value.ownBlock, Option.some.injEq] at hg; omega) (Chg.grown (Chg.refl (own (.slice (some ⟨w.heap.size + 1 + 1 + 1 + 1, 0, none⟩) 0 0)) _) hgr (fun k hk => Or.inl (own_mem hk))) hat (Nat.le_refl _) hown); have hCw : Chg [] w w2 := (Chg.of_up (show Up w _ by exact ua)).call (Chg.grown (Chg.refl (own (.slice (some ⟨w.heap.size + 1 + 1 + 1 + 1, 0, none⟩) 0 0)) _) hgr (fun k hk => Or.inl (own_mem hk))) (fun x hx => Or.inr (by have := own_of hx; simp only [Value.ownBlock, Option.some.injEq] at this; omega)); have hRw := HR.out.chg hCw (by simp); have z1 : w2.cell? ⟨b, 27, none⟩ = some (.slice none 0 0) := hRw.cell 27 rfl; have zf := hRw.free 27; clear hown hat hgr hCw hRw)
      | (refine step_append_lies _ rfl (.tmp 60) (.tmp 62) 38 rfl 0 97 i0 _ 7 56 Tryd.underlying38 ji jz0 jz1 jz2 rfl (by decide) (.slice (some ⟨w.heap.size + 1 + 1 + 1, 0, none⟩) 0 0) 0 [] rfl (made_any (by first | exact made_at (by simp) | exact raw_up (made_at (by simp)) (Up.drew (Up.refl _)) | exact raw_up (made_at (by simp)) (Up.drew (Up.alloc (Up.refl _) _)) | exact raw_up (made_at (by simp)) (Up.alloc (Up.refl _) _))) _ 1 1 (segCells [⟨1, (x, y), Z, Z⟩]) rfl rfl (news_at (show Row _ _ #[.int .i64 1, .int .i64 x, .int .i64 y, .int .i64 0, .int .i64 0, .int .i64 0, .int .i64 0] by exact ra) rfl) (segCells_one _) (by decide) (by decide) (by decide) (Nat.zero_le _) _ rfl ?_; intro g2 c2 w2 hown hgr hat hg1; have HST := Lib.hid (Moved.stored HR.out (show Up w _ by exact ua) (fun g hg => by simp only [Value.ownBlock, Option.some.injEq] at hg; omega) (Chg.grown (Chg.refl (own (.slice (some ⟨w.heap.size + 1 + 1 + 1, 0, none⟩) 0 0)) _) hgr (fun k hk => Or.inl (own_mem hk))) hat (Nat.le_refl _) hown); have hCw : Chg [] w w2 := (Chg.of_up (show Up w _ by exact ua)).call (Chg.grown (Chg.refl (own (.slice (some ⟨w.heap.size + 1 + 1 + 1, 0, none⟩) 0 0)) _) hgr (fun k hk => Or.inl (own_mem hk))) (fun x hx => Or.inr (by have := own_of hx; simp only [Value.ownBlock, Option.some.injEq] at this; omega)); have hRw := HR.out.chg hCw (by simp); have z1 : w2.cell? ⟨b, 27, none⟩ = some (.slice none 0 0) := hRw.cell 27 rfl; have zf := hRw.free 27; clear hown hat hgr hCw hRw))
    all_goals go_wp2
    all_goals
      go_ret
      exact ⟨rfl, HST.out⟩
  · have hf : fitsP (x, y) = false := by simpa using hf
    refine Calls.mono (R := fun E w' => E = .returned (.int .i64 11) ∧ Up w w') ?_ (fun E w' h2 => Or.inr ⟨hf, h2⟩)
    have HF := Lib.hid hf
    clear hf
    go_enter Tryd.func26, Tryd.ntmps26
    go_wp2_with (go_at_call 52; ((with_reducible refine (fitsPoint_calls _ _ _).mono ?_); rintro E w1 ⟨rfl, rfl⟩; rw [HF.out]))
    go_ret
    exact ⟨rfl, by exact ua⟩

end Go.Proofs.YtjdbefpfjhdmoaaDoor.Sh
end

section
namespace Go.Proofs.YtjdbefpfjhdmoaaDoor.Sh
open List renaming getElem_toArray → lga, getElem_cons_zero → lgz, getElem_cons_succ → lgs, setIfInBounds_toArray → lsa, set_cons_zero → lsz, set_cons_succ → lss
open Go.Proofs.YtjdbefpfjhdmoaaDoor.ZGJ
open Go.ChangeShapes Go.WideShapes Go.ChangeAt Go.RowKit
open Go.Proofs.YtjdbefpfjhdmoaaDoor.Gs
open Go.Proofs.YtjdbefpfjhdmoaaDoor.FixM (fits)
open Go.Proofs.YtjdbefpfjhdmoaaDoor.MatM (M6)
open Go.Proofs.YtjdbefpfjhdmoaaDoor.PathM
open Go.Proofs.YtjdbefpfjhdmoaaDoor.Path
set_option linter.unusedVariables false
set_option linter.unusedSimpArgs false

/-- where things lie: the states, their path, the canvas, the reference's state and canvas -/
structure Ap (w : World) (g p c s m : Nat) : Prop where
  g0 : w.heap.size + 3 ≤ g
  p0 : w.heap.size + 3 ≤ p
  pg : p ≠ g
  gc : g < c
  pc : p < c
  cs : c < s
  sm : s < m
/-- what lies there -/
structure All (w : World) (g p c s m : Nat) (ct fx : M6) (ft x y : Int) (pl dk : Bool) (sg n : Int) (C : M6) (F : Int) (FM : M6) (D : Bool) (C2 : M6) (F2 : Int) (FM2 : M6) (D2 : Bool) (pv : Value) (t : St) (v : Value) (wx : World) : Prop where
  box : Row wx w.heap.size #[.int .i64 ct.a, .int .i64 ct.b, .int .i64 ct.c, .int .i64 ct.d, .int .i64 ct.x, .int .i64 ct.y, .int .i64 fx.a, .int .i64 fx.b, .int .i64 fx.c, .int .i64 fx.d, .int .i64 fx.x, .int .i64 fx.y, .int .i64 ft, .int .i64 x, .int .i64 y, .bool pl, .bool dk, .int .u8 sg]
  z1 : Row wx (w.heap.size + 1) #[.int .i64 0, .int .i64 0, .int .i64 0, .int .i64 0, .int .i64 0, .int .i64 0, .int .i64 0, .int .i64 0, .int .i64 0, .int .i64 0, .int .i64 0, .int .i64 0, .int .i64 0, .int .i64 0, .int .i64 0, .slice none 0 0, .int .i64 0, .int .i64 0, .int .i64 0, .int .i64 0, .int .i64 0, .int .i64 0, .int .i64 0, .int .i64 0, .slice none 0 0, .bool false, .int .i64 0, .slice none 0 0]
  z2 : Row wx (w.heap.size + 1 + 1) #[.int .i64 0, .int .i64 0, .slice none 0 0, .int .i64 0, .slice none 0 0]
  gs : Row wx g (gsC C 65536 (.slice none 0 0) 0 F FM D p 2 n)
  pt : PathIs wx p pv t
  po : ∀ k, pv.ownBlock = some k → m < k
  cv : Row wx c #[.int .i64 6553600, .int .i64 6553600, .slice none 0 0, .int .i64 2, .slice none 0 0]
  rs : Row wx s (rsC C2 F2 FM2 D2 n v)
  sg : Segs wx v t.l
  so : ∀ k, v.ownBlock = some k → m < k
  rm : Row wx m #[.int .i64 6553600, .int .i64 6553600, .slice none 0 0, .int .i64 2, .slice none 0 0]
  up : Chg [] w wx
  pd : ∀ k, pv.ownBlock = some k → v.ownBlock ≠ some k
theorem Segs.lt {w : World} {v : Value} {l : List Seg} (h : Path.Segs w v l) {g : Nat} (hg : v.ownBlock = some g) : g < w.heap.size := by
  rcases h.form with ⟨rfl, _⟩ | ⟨g', cap, rfl, _, _, hb⟩
  · cases hg
  · simp only [Value.ownBlock, Option.some.injEq] at hg
    omega
/-- where what open makes lies -/
structure Lies (w : World) (g p c : Nat) (pv v : Value) : Prop where
  g0 : w.heap.size ≤ g
  p0 : w.heap.size ≤ p
  pg : p ≠ g
  gc : g < c
  pc : p < c
  po : ∀ k, pv.ownBlock = some k → c < k
  so : ∀ k, v.ownBlock = some k → c < k
  pd : ∀ k, pv.ownBlock = some k → v.ownBlock ≠ some k
section
variable {w : World} {g p c s m : Nat} {ct fx : M6} {ft x y : Int} {pl dk : Bool} {sg n : Int} {C : M6} {F : Int} {FM : M6} {D : Bool} {C2 : M6} {F2 : Int} {FM2 : M6} {D2 : Bool} {pv : Value} {t : St} {v : Value} {wx wy : World}
theorem All.onG (h : All w g p c s m ct fx ft x y pl dk sg n C F FM D C2 F2 FM2 D2 pv t v wx) (a : Ap w g p c s m) {C' : M6} {F' : Int} {FM' : M6} {D' : Bool} (hr : Row wy g (gsC C' 65536 (.slice none 0 0) 0 F' FM' D' p 2 n)) (hc : Chg [g] wx wy) :
    All w g p c s m ct fx ft x y pl dk sg n C' F' FM' D' C2 F2 FM2 D2 pv t v wy := by
  obtain ⟨a1, a2, a3, a4, a5, a6, a7⟩ := a
  exact ⟨h.box.chg hc (by simp; omega), h.z1.chg hc (by simp; omega), h.z2.chg hc (by simp; omega), hr, h.pt.chg hc (by simpa using a3) (fun k hk => by have := h.po k hk; simp; omega), h.po, h.cv.chg hc (by simp; omega), h.rs.chg hc (by simp; omega), h.sg.chg hc (fun k hk => by have := h.so k hk; simp; omega), h.so, h.rm.chg hc (by simp; omega), h.up.call hc (fun k hk => by simp at hk; omega), h.pd⟩
theorem All.onM (h : All w g p c s m ct fx ft x y pl dk sg n C F FM D C2 F2 FM2 D2 (.slice none 0 0) ⟨n, [], Z, Z⟩ (.slice none 0 0) wx) (a : Ap w g p c s m) {t' : St} {wz : World} (hl : Path.Left wx p (.slice none 0 0) t' wy)
    (hm : (t'.l = [⟨1, (x, y), Z, Z⟩] ∧ Moved wy s C2 F2 FM2 D2 n x y wz) ∨ (t'.l = [] ∧ Up wy wz)) :
    ∃ pv v, All w g p c s m ct fx ft x y pl dk sg n C F FM D C2 F2 FM2 D2 pv t' v wz := by
  obtain ⟨a1, a2, a3, a4, a5, a6, a7⟩ := a
  obtain ⟨pv, hp, hc, ho⟩ := hl
  have hc : Chg [p] wx wy := hc
  have hpo : ∀ k, pv.ownBlock = some k → wx.heap.size ≤ k := fun k hk => by
    rcases ho k hk with h1 | h1
    · cases h1
    · exact h1
  have lm := h.rm.lt
  rcases hm with ⟨e, v, hr, hs, hc2, hv⟩ | ⟨e, hu⟩
  · have hpz : PathIs wz p pv t' := hp.chg hc2 (by simp; omega) (fun k hk => by have := hpo k hk; simp; omega)
    have hz := hc.size
    refine ⟨pv, v, (h.box.chg hc (by simp; omega)).chg hc2 (by simp; omega), (h.z1.chg hc (by simp; omega)).chg hc2 (by simp; omega), (h.z2.chg hc (by simp; omega)).chg hc2 (by simp; omega), (h.gs.chg hc (by simpa using a3.symm)).chg hc2 (by simp; omega), hpz, fun k hk => by have := hpo k hk; omega, (h.cv.chg hc (by simp; omega)).chg hc2 (by simp; omega), hr, by rw [e]; exact hs, fun k hk => by have := hv k hk; omega, (h.rm.chg hc (by simp; omega)).chg hc2 (by simp; omega), (h.up.call hc (fun k hk => by simp at hk; omega)).call hc2 (fun k hk => by simp at hk; omega), fun k hk e => by have h1 := hv k e; have h2 := Segs.lt hp.segs hk; omega⟩
  · refine ⟨pv, .slice none 0 0, (h.box.chg hc (by simp; omega)).up hu, (h.z1.chg hc (by simp; omega)).up hu, (h.z2.chg hc (by simp; omega)).up hu, (h.gs.chg hc (by simpa using a3.symm)).up hu, hp.up hu, fun k hk => by have := hpo k hk; omega, (h.cv.chg hc (by simp; omega)).up hu, (h.rs.chg hc (by simp; omega)).up hu, by rw [e]; exact World.ownsRow_nil _ _ _ _, (fun k hk => by cases hk), (h.rm.chg hc (by simp; omega)).up hu, (h.up.call hc (fun k hk => by simp at hk; omega)).upc hu, fun k hk e => by cases e⟩
theorem All.onS (h : All w g p c s m ct fx ft x y pl dk sg n C F FM D C2 F2 FM2 D2 pv t v wx) (a : Ap w g p c s m) {C' : M6} {F' : Int} {FM' : M6} {D' : Bool} (hr : Row wy s (rsC C' F' FM' D' n v)) (hc : Chg [s] wx wy) :
    All w g p c s m ct fx ft x y pl dk sg n C F FM D C' F' FM' D' pv t v wy := by
  obtain ⟨a1, a2, a3, a4, a5, a6, a7⟩ := a
  exact ⟨h.box.chg hc (by simp; omega), h.z1.chg hc (by simp; omega), h.z2.chg hc (by simp; omega), h.gs.chg hc (by simp; omega), h.pt.chg hc (by simp; omega) (fun k hk => by have := h.po k hk; simp; omega), h.po, h.cv.chg hc (by simp; omega), hr, h.sg.chg hc (fun k hk => by have := h.so k hk; simp; omega), h.so, h.rm.chg hc (by simp; omega), h.up.call hc (fun k hk => by simp at hk; omega), h.pd⟩
end

theorem infoCv : (Tryd.prog.info? 48).map (·.size) = some 5 := by kernel_rfl
theorem rng0 {W : World} {b : Nat} {cs : Array Value} (h : Row W b cs) : W.rangeAt b 0 cs.toList := fun j v hj => by
  rw [Nat.zero_add]
  exact h.cell j (by simpa using hj)
theorem wp_store_RowS {o : Oper} {a : Act} {w : World} {K : Act → World → Prop} {Q : Exit → Act → World → Prop} (ty : TypeId) (x y : Operand) (ho : o.op = .store ty x y)
    (g : Nat) (cells : Array Value) (hx : a.eval x = .pointer (some ⟨g, 0, none⟩)) (hy : a.eval y = .agg cells)
    (old : Array Value) (hg : Row w g old) {n : Nat} (hi : (Tryd.prog.info? ty).map (·.size) = some n) (hn : cells.size = n)
    (hold : old.size = n) (h1 : cells.all (·.oneCell') = true)
    (h : ∀ w2, Row w2 g cells → Chg [g] w w2 → K (a.put o.dst undef) w2) : Oper.wp Tryd.prog o a w K Q := by
  obtain ⟨t, hb⟩ := hg
  have hr := run_storeVar_row (P := Tryd.prog) w g t ty old cells hb (by rw [hn]; exact hi) (by rw [hn]; exact hold) h1
  have hk := h (w.setRow g cells) ⟨t, setRow_heap w g old cells t (0, 0) hb⟩ ⟨rfl, rfl, rfl, by simp [World.setRow], fun k hk hns => by
    have hne : ¬ g = k := fun e => hns (by simp [e])
    simp [World.setRow, Array.getElem?_modify, hne]⟩
  unfold Oper.wp execOp
  simp only [ho, hx, hy, Instr.storeAt, Instr.sureAddr, Sem.run_bind, Sem.run_pure, Result.andThen_ok, hr]
  exact hk
theorem results_open (tmps : Array Value) (w : World) (g c b1 b2 : Nat) (cs cs2 : Array Value) (e2 : tmps.getD 2 undef = .pointer (some ⟨g, 0, none⟩)) (e3 : tmps.getD 3 undef = .pointer (some ⟨c, 0, none⟩))
    (e4 : tmps.getD 4 undef = .pointer (some ⟨b1, 0, none⟩)) (e5 : tmps.getD 5 undef = .pointer (some ⟨b2, 0, none⟩)) (h1 : Row w b1 cs) (hs1 : cs.size = 28) (h2 : Row w b2 cs2) (hs2 : cs2.size = 5) :
    (results Tryd.f7 tmps).run Tryd.prog w = .ok (.tuple #[.pointer (some ⟨g, 0, none⟩), .pointer (some ⟨c, 0, none⟩), .agg cs, .agg cs2]) w := by
  rw [Array.getD_eq_getD_getElem?] at e2 e3 e4 e5
  have hl1 := run_loadAt_mid (P := Tryd.prog) w b1 0 42 cs.toList _ (rng0 h1) Tryd.underlying42 rfl (by rw [Array.length_toList, hs1]; exact infoRs)
  have hl2 := run_loadAt_mid (P := Tryd.prog) w b2 0 48 cs2.toList _ (rng0 h2) Tryd.underlying48 rfl (by rw [Array.length_toList, hs2]; exact infoCv)
  simp [results, Tryd.results7, go_sem, e2, e3, e4, e5] at hl1 hl2 ⊢
  simp [hl1, hl2]
theorem matrix_of {ct C : M6} (h : (if chk (lM ct) = 0 then ct else idM) = C) : ((chk (lM ct) == 0) = true → ct = C) ∧ ((chk (lM ct) == 0) = false → idM = C) := by
  constructor
  · intro h1; simp at h1; rw [if_pos h1] at h; exact h
  · intro h1; simp at h1; rw [if_neg h1] at h; exact h
theorem font_of {α : Type} {e : Int} {a b c : α} (h : (if e = 0 then a else b) = c) : ((e == 0) = true → a = c) ∧ ((e == 0) = false → b = c) := by
  constructor
  · intro h1; simp at h1; rw [if_pos h1] at h; exact h
  · intro h1; simp at h1; rw [if_neg h1] at h; exact h
theorem mv_true {n x y : Int} (hn : 1 ≤ n) (hf : fitsP (x, y) = true) : (St.move ⟨n, [], Z, Z⟩ (x, y)).1.l = [⟨1, (x, y), Z, Z⟩] := by
  have h1 : ¬ n < 1 := by omega
  simp [St.move, St.add, hf, lastK, h1]
theorem mv_false {n x y : Int} (hf : fitsP (x, y) = false) : (St.move ⟨n, [], Z, Z⟩ (x, y)).1.l = [] := by
  simp [St.move, hf]
set_option maxRecDepth 8000 in
set_option maxHeartbeats 4000000 in
theorem open_callsX (ct fx : M6) (ft x y : Int) (pl dk : Bool) (sg n : Int) (hsg : 0 ≤ sg) (hn : sg % 10 + 1 = n) (w : World) (hT : Font.Tab w) :
    Calls Tryd.prog 7 #[.agg #[.int .i64 ct.a, .int .i64 ct.b, .int .i64 ct.c, .int .i64 ct.d, .int .i64 ct.x, .int .i64 ct.y, .int .i64 fx.a, .int .i64 fx.b, .int .i64 fx.c, .int .i64 fx.d, .int .i64 fx.x, .int .i64 fx.y, .int .i64 ft, .int .i64 x, .int .i64 y, .bool pl, .bool dk, .int .u8 sg]] w fun E w' => ∃ (g p c : Nat) (pv v : Value) (C : M6) (F : Int) (FM : M6) (T : St), (if chk (lM ct) = 0 then ct else idM) = C ∧ (if sfE ft fx = 0 then ft else -1) = F ∧ (if sfE ft fx = 0 then fx else idM) = FM ∧ (if pl = true then (St.move ⟨n, [], Z, Z⟩ (x, y)).1 else ⟨n, [], Z, Z⟩) = T ∧ E = .returned (.tuple #[.pointer (some ⟨g, 0, none⟩), .pointer (some ⟨c, 0, none⟩), .agg (rsC C F FM dk n v), .agg #[.int .i64 6553600, .int .i64 6553600, .slice none 0 0, .int .i64 2, .slice none 0 0]]) ∧ Row w' g (gsC C 65536 (.slice none 0 0) 0 F FM dk p 2 n) ∧ PathIs w' p pv T ∧ Row w' c #[.int .i64 6553600, .int .i64 6553600, .slice none 0 0, .int .i64 2, .slice none 0 0] ∧ Segs w' v T.l ∧ Up w w' ∧ Lies w g p c pv v := by
  have HT := Lib.hid hT
  have hn1 : 1 ≤ n := by omega
  clear hT
  obtain ⟨C, hC⟩ : ∃ C, (if chk (lM ct) = 0 then ct else idM) = C := ⟨_, rfl⟩
  obtain ⟨F, hF⟩ : ∃ F, (if sfE ft fx = 0 then ft else -1) = F := ⟨_, rfl⟩
  obtain ⟨FM, hFM⟩ : ∃ FM, (if sfE ft fx = 0 then fx else idM) = FM := ⟨_, rfl⟩
  obtain ⟨T, hTT⟩ : ∃ T, (if pl = true then (St.move ⟨n, [], Z, Z⟩ (x, y)).1 else ⟨n, [], Z, Z⟩) = T := ⟨_, rfl⟩
  have HC := Lib.hid hC
  have HF := Lib.hid hF
  have HFM := Lib.hid hFM
  have HTT := Lib.hid hTT
  clear hC hF hFM hTT
  go_enter Tryd.func7, Tryd.ntmps7
  go_upto_if 31 with (first
    | (go_at_call 18; ((with_reducible refine (gnew_calls 2 _ _).mono ?_); rintro E w1 ⟨g, p, rfl, hg0, hp0, hpg, hr1, hp1, hu1⟩; have z1 := hu1.size; (try simp at z1); (try simp at hg0); (try simp at hp0); have lg := hr1.lt; have lp := hp1.row.lt; have RG := hr1; have HP := Lib.hid hp1; clear hp1))
    | (go_at_call 20; ((with_reducible refine (pnew_calls _).mono ?_); rintro E w2 ⟨c, rfl, hc0, hr2, hu2⟩; have z2 := hu2.size; have lc := hr2.lt))
    | (go_at_call 21; ((with_reducible refine (rstart_calls _ _).mono ?_); rintro E w3 ⟨rfl, hu3⟩; have z3 := hu3.size))
    | ((refine wpList_store_Row rfl 42 (.tmp 10) _ rfl w3.heap.size #[.int .i64 65536, .int .i64 0, .int .i64 0, .int .i64 65536, .int .i64 0, .int .i64 0, .int .i64 1, .int .i64 0, .int .i64 0, .int .i64 0, .int .i64 0, .int .i64 65536, .int .i64 0, .int .i64 0, .int .i64 655360, .slice none 0 0, .int .i64 0, .int .i64 (-1), .int .i64 65536, .int .i64 0, .int .i64 0, .int .i64 65536, .int .i64 0, .int .i64 0, .slice none 0 0, .bool false, .int .i64 n, .slice none 0 0] rfl rfl #[.int .i64 0, .int .i64 0, .int .i64 0, .int .i64 0, .int .i64 0, .int .i64 0, .int .i64 0, .int .i64 0, .int .i64 0, .int .i64 0, .int .i64 0, .int .i64 0, .int .i64 0, .int .i64 0, .int .i64 0, .slice none 0 0, .int .i64 0, .int .i64 0, .int .i64 0, .int .i64 0, .int .i64 0, .int .i64 0, .int .i64 0, .int .i64 0, .slice none 0 0, .bool false, .int .i64 0, .slice none 0 0] (by exact ra) infoRs rfl rfl (by simp [Value.oneCell']) ?_); intro w4 hr4 hc4; have z4 := hc4.size; (try simp at z4); have B4 : Row w4 w.heap.size #[.int .i64 ct.a, .int .i64 ct.b, .int .i64 ct.c, .int .i64 ct.d, .int .i64 ct.x, .int .i64 ct.y, .int .i64 fx.a, .int .i64 fx.b, .int .i64 fx.c, .int .i64 fx.d, .int .i64 fx.x, .int .i64 fx.y, .int .i64 ft, .int .i64 x, .int .i64 y, .bool pl, .bool dk, .int .u8 sg] := (by exact ra); have HRS : Row w4 w3.heap.size (rsC idM (-1) idM false n (.slice none 0 0)) := hr4; have lb4 := B4.lt; have kw4_0 : w4.cell? ⟨w.heap.size, 0, none⟩ = some (.int .i64 ct.a) := B4.cell 0 rfl; have kw4_1 : w4.cell? ⟨w.heap.size, 1, none⟩ = some (.int .i64 ct.b) := B4.cell 1 rfl; have kw4_2 : w4.cell? ⟨w.heap.size, 2, none⟩ = some (.int .i64 ct.c) := B4.cell 2 rfl; have kw4_3 : w4.cell? ⟨w.heap.size, 3, none⟩ = some (.int .i64 ct.d) := B4.cell 3 rfl; have kw4_4 : w4.cell? ⟨w.heap.size, 4, none⟩ = some (.int .i64 ct.x) := B4.cell 4 rfl; have kw4_5 : w4.cell? ⟨w.heap.size, 5, none⟩ = some (.int .i64 ct.y) := B4.cell 5 rfl; have kw4_6 : w4.cell? ⟨w.heap.size, 6, none⟩ = some (.int .i64 fx.a) := B4.cell 6 rfl; have kw4_7 : w4.cell? ⟨w.heap.size, 7, none⟩ = some (.int .i64 fx.b) := B4.cell 7 rfl; have kw4_8 : w4.cell? ⟨w.heap.size, 8, none⟩ = some (.int .i64 fx.c) := B4.cell 8 rfl; have kw4_9 : w4.cell? ⟨w.heap.size, 9, none⟩ = some (.int .i64 fx.d) := B4.cell 9 rfl; have kw4_10 : w4.cell? ⟨w.heap.size, 10, none⟩ = some (.int .i64 fx.x) := B4.cell 10 rfl; have kw4_11 : w4.cell? ⟨w.heap.size, 11, none⟩ = some (.int .i64 fx.y) := B4.cell 11 rfl; have kw4_12 : w4.cell? ⟨w.heap.size, 12, none⟩ = some (.int .i64 ft) := B4.cell 12 rfl; have kw4_13 : w4.cell? ⟨w.heap.size, 13, none⟩ = some (.int .i64 x) := B4.cell 13 rfl; have kw4_14 : w4.cell? ⟨w.heap.size, 14, none⟩ = some (.int .i64 y) := B4.cell 14 rfl; have kw4_15 : w4.cell? ⟨w.heap.size, 15, none⟩ = some (.bool pl) := B4.cell 15 rfl; have kw4_16 : w4.cell? ⟨w.heap.size, 16, none⟩ = some (.bool dk) := B4.cell 16 rfl; have kw4_17 : w4.cell? ⟨w.heap.size, 17, none⟩ = some (.int .u8 sg) := B4.cell 17 rfl)
    | (go_at_call 22; go_loud (have ap : Ap w g p c w3.heap.size w4.heap.size := ⟨by omega, by omega, hpg, by omega, by omega, by omega, by omega⟩; have AA := (show All w g p c w3.heap.size w4.heap.size ct fx ft x y pl dk sg n idM (-1) idM false idM (-1) idM false (.slice none 0 0) ⟨n, [], Z, Z⟩ (.slice none 0 0) (w4.alloc (.cells #[.int .i64 6553600, .int .i64 6553600, .slice none 0 0, .int .i64 2, .slice none 0 0] 48)) from ⟨by exact ra, by exact ra, by exact ra, by exact ra, HP.out.chg (S := []) (by (repeat' (first | (with_reducible first | exact Chg.refl _ _ | assumption | refine Chg.alloc ?_ _ | refine Chg.drew ?_ | refine Chg.drewN ?_ _ | refine Chg.setCell ?_ ?_ _ | refine Chg.upc ?_ (by assumption) | refine Chg.call ?_ (by assumption) ?_) | (refine Or.inl ?_; (simp; done)) | (simp; done) | (simp; omega) | omega))) (by simp) (by simp), (fun k hk => by cases hk), by exact ra, by exact ra, World.ownsRow_nil _ _ _ _, (fun k hk => by cases hk), by exact ra, by (repeat' (first | (with_reducible first | exact Chg.refl _ _ | assumption | refine Chg.alloc ?_ _ | refine Chg.drew ?_ | refine Chg.drewN ?_ _ | refine Chg.setCell ?_ ?_ _ | refine Chg.upc ?_ (by assumption) | refine Chg.call ?_ (by assumption) ?_) | (refine Or.inl ?_; (simp; done)) | (simp; done) | (simp; omega) | omega)), (fun k hk => by cases hk)⟩); ((with_reducible refine (setMatrix_calls g _ _ _ _ _ _ _ p _ _ ct _ AA.gs).mono ?_); rintro E w5 ⟨rfl, hr5, hc5⟩; rw [HC.out] at hr5; have HA5 := Lib.hid (AA.onG ap hr5 hc5); have BX5 := HA5.out.box; have RX5 := HA5.out.rs; have kw5_0 : w5.cell? ⟨w.heap.size, 0, none⟩ = some (.int .i64 ct.a) := BX5.cell 0 rfl; have kw5_1 : w5.cell? ⟨w.heap.size, 1, none⟩ = some (.int .i64 ct.b) := BX5.cell 1 rfl; have kw5_2 : w5.cell? ⟨w.heap.size, 2, none⟩ = some (.int .i64 ct.c) := BX5.cell 2 rfl; have kw5_3 : w5.cell? ⟨w.heap.size, 3, none⟩ = some (.int .i64 ct.d) := BX5.cell 3 rfl; have kw5_4 : w5.cell? ⟨w.heap.size, 4, none⟩ = some (.int .i64 ct.x) := BX5.cell 4 rfl; have kw5_5 : w5.cell? ⟨w.heap.size, 5, none⟩ = some (.int .i64 ct.y) := BX5.cell 5 rfl; have kw5_6 : w5.cell? ⟨w.heap.size, 6, none⟩ = some (.int .i64 fx.a) := BX5.cell 6 rfl; have kw5_7 : w5.cell? ⟨w.heap.size, 7, none⟩ = some (.int .i64 fx.b) := BX5.cell 7 rfl; have kw5_8 : w5.cell? ⟨w.heap.size, 8, none⟩ = some (.int .i64 fx.c) := BX5.cell 8 rfl; have kw5_9 : w5.cell? ⟨w.heap.size, 9, none⟩ = some (.int .i64 fx.d) := BX5.cell 9 rfl; have kw5_10 : w5.cell? ⟨w.heap.size, 10, none⟩ = some (.int .i64 fx.x) := BX5.cell 10 rfl; have kw5_11 : w5.cell? ⟨w.heap.size, 11, none⟩ = some (.int .i64 fx.y) := BX5.cell 11 rfl; have kw5_12 : w5.cell? ⟨w.heap.size, 12, none⟩ = some (.int .i64 ft) := BX5.cell 12 rfl; have kw5_13 : w5.cell? ⟨w.heap.size, 13, none⟩ = some (.int .i64 x) := BX5.cell 13 rfl; have kw5_14 : w5.cell? ⟨w.heap.size, 14, none⟩ = some (.int .i64 y) := BX5.cell 14 rfl; have kw5_15 : w5.cell? ⟨w.heap.size, 15, none⟩ = some (.bool pl) := BX5.cell 15 rfl; have kw5_16 : w5.cell? ⟨w.heap.size, 16, none⟩ = some (.bool dk) := BX5.cell 16 rfl; have kw5_17 : w5.cell? ⟨w.heap.size, 17, none⟩ = some (.int .u8 sg) := BX5.cell 17 rfl; have rw5_0 : w5.cell? ⟨w3.heap.size, 0, none⟩ = some (.int .i64 idM.a) := RX5.cell 0 rfl; have fw5_0 := RX5.free 0; have rw5_1 : w5.cell? ⟨w3.heap.size, 1, none⟩ = some (.int .i64 idM.b) := RX5.cell 1 rfl; have fw5_1 := RX5.free 1; have rw5_2 : w5.cell? ⟨w3.heap.size, 2, none⟩ = some (.int .i64 idM.c) := RX5.cell 2 rfl; have fw5_2 := RX5.free 2; have rw5_3 : w5.cell? ⟨w3.heap.size, 3, none⟩ = some (.int .i64 idM.d) := RX5.cell 3 rfl; have fw5_3 := RX5.free 3; have rw5_4 : w5.cell? ⟨w3.heap.size, 4, none⟩ = some (.int .i64 idM.x) := RX5.cell 4 rfl; have fw5_4 := RX5.free 4; have rw5_5 : w5.cell? ⟨w3.heap.size, 5, none⟩ = some (.int .i64 idM.y) := RX5.cell 5 rfl; have fw5_5 := RX5.free 5; clear AA hr5 hc5 BX5))))
  go_cut [] from 12 (fun wx => All w g p c w3.heap.size w4.heap.size ct fx ft x y pl dk sg n C (-1) idM false C (-1) idM false (.slice none 0 0) ⟨n, [], Z, Z⟩ (.slice none 0 0) wx)
  case first =>
    go_wp2
    all_goals go_meet
    case rel =>
      obtain rfl := (matrix_of HC.out).1 (by assumption)
      exact HA5.out.onS ap (by exact ro) (by (repeat' (first | (with_reducible first | exact Chg.refl _ _ | assumption | refine Chg.alloc ?_ _ | refine Chg.drew ?_ | refine Chg.drewN ?_ _ | refine Chg.setCell ?_ ?_ _ | refine Chg.upc ?_ (by assumption) | refine Chg.call ?_ (by assumption) ?_) | (refine Or.inl ?_; (simp; done)) | (simp; done) | (simp; omega) | omega)))
    case rel =>
      obtain rfl := (matrix_of HC.out).2 (by assumption)
      exact HA5.out

  case rest =>
    have HA1 := Lib.hid hcut
    rename World => c1
    have BX1 := HA1.out.box
    have lbx1 := BX1.lt
    have RX1 := HA1.out.rs
    have lrx1 := RX1.lt
    have kc1_0 : c1.cell? ⟨w.heap.size, 0, none⟩ = some (.int .i64 ct.a) := BX1.cell 0 rfl
    have kc1_1 : c1.cell? ⟨w.heap.size, 1, none⟩ = some (.int .i64 ct.b) := BX1.cell 1 rfl
    have kc1_2 : c1.cell? ⟨w.heap.size, 2, none⟩ = some (.int .i64 ct.c) := BX1.cell 2 rfl
    have kc1_3 : c1.cell? ⟨w.heap.size, 3, none⟩ = some (.int .i64 ct.d) := BX1.cell 3 rfl
    have kc1_4 : c1.cell? ⟨w.heap.size, 4, none⟩ = some (.int .i64 ct.x) := BX1.cell 4 rfl
    have kc1_5 : c1.cell? ⟨w.heap.size, 5, none⟩ = some (.int .i64 ct.y) := BX1.cell 5 rfl
    have kc1_6 : c1.cell? ⟨w.heap.size, 6, none⟩ = some (.int .i64 fx.a) := BX1.cell 6 rfl
    have kc1_7 : c1.cell? ⟨w.heap.size, 7, none⟩ = some (.int .i64 fx.b) := BX1.cell 7 rfl
    have kc1_8 : c1.cell? ⟨w.heap.size, 8, none⟩ = some (.int .i64 fx.c) := BX1.cell 8 rfl
    have kc1_9 : c1.cell? ⟨w.heap.size, 9, none⟩ = some (.int .i64 fx.d) := BX1.cell 9 rfl
    have kc1_10 : c1.cell? ⟨w.heap.size, 10, none⟩ = some (.int .i64 fx.x) := BX1.cell 10 rfl
    have kc1_11 : c1.cell? ⟨w.heap.size, 11, none⟩ = some (.int .i64 fx.y) := BX1.cell 11 rfl
    have kc1_12 : c1.cell? ⟨w.heap.size, 12, none⟩ = some (.int .i64 ft) := BX1.cell 12 rfl
    have kc1_13 : c1.cell? ⟨w.heap.size, 13, none⟩ = some (.int .i64 x) := BX1.cell 13 rfl
    have kc1_14 : c1.cell? ⟨w.heap.size, 14, none⟩ = some (.int .i64 y) := BX1.cell 14 rfl
    have kc1_15 : c1.cell? ⟨w.heap.size, 15, none⟩ = some (.bool pl) := BX1.cell 15 rfl
    have kc1_16 : c1.cell? ⟨w.heap.size, 16, none⟩ = some (.bool dk) := BX1.cell 16 rfl
    have kc1_17 : c1.cell? ⟨w.heap.size, 17, none⟩ = some (.int .u8 sg) := BX1.cell 17 rfl
    clear hcut

    go_upto_if 41 with (go_at_call 19; ((with_reducible refine (setFont_calls g _ _ _ _ _ _ _ p _ _ ft fx _ HA1.out.gs (HT.out.up HA1.out.up.up)).mono ?_); rintro E w6 ⟨rfl, hr6, hc6⟩; rw [HF.out, HFM.out] at hr6; have HA6 := Lib.hid (HA1.out.onG ap hr6 hc6); have BX6 := HA6.out.box; have RX6 := HA6.out.rs; have kw6_0 : w6.cell? ⟨w.heap.size, 0, none⟩ = some (.int .i64 ct.a) := BX6.cell 0 rfl; have kw6_1 : w6.cell? ⟨w.heap.size, 1, none⟩ = some (.int .i64 ct.b) := BX6.cell 1 rfl; have kw6_2 : w6.cell? ⟨w.heap.size, 2, none⟩ = some (.int .i64 ct.c) := BX6.cell 2 rfl; have kw6_3 : w6.cell? ⟨w.heap.size, 3, none⟩ = some (.int .i64 ct.d) := BX6.cell 3 rfl; have kw6_4 : w6.cell? ⟨w.heap.size, 4, none⟩ = some (.int .i64 ct.x) := BX6.cell 4 rfl; have kw6_5 : w6.cell? ⟨w.heap.size, 5, none⟩ = some (.int .i64 ct.y) := BX6.cell 5 rfl; have kw6_6 : w6.cell? ⟨w.heap.size, 6, none⟩ = some (.int .i64 fx.a) := BX6.cell 6 rfl; have kw6_7 : w6.cell? ⟨w.heap.size, 7, none⟩ = some (.int .i64 fx.b) := BX6.cell 7 rfl; have kw6_8 : w6.cell? ⟨w.heap.size, 8, none⟩ = some (.int .i64 fx.c) := BX6.cell 8 rfl; have kw6_9 : w6.cell? ⟨w.heap.size, 9, none⟩ = some (.int .i64 fx.d) := BX6.cell 9 rfl; have kw6_10 : w6.cell? ⟨w.heap.size, 10, none⟩ = some (.int .i64 fx.x) := BX6.cell 10 rfl; have kw6_11 : w6.cell? ⟨w.heap.size, 11, none⟩ = some (.int .i64 fx.y) := BX6.cell 11 rfl; have kw6_12 : w6.cell? ⟨w.heap.size, 12, none⟩ = some (.int .i64 ft) := BX6.cell 12 rfl; have kw6_13 : w6.cell? ⟨w.heap.size, 13, none⟩ = some (.int .i64 x) := BX6.cell 13 rfl; have kw6_14 : w6.cell? ⟨w.heap.size, 14, none⟩ = some (.int .i64 y) := BX6.cell 14 rfl; have kw6_15 : w6.cell? ⟨w.heap.size, 15, none⟩ = some (.bool pl) := BX6.cell 15 rfl; have kw6_16 : w6.cell? ⟨w.heap.size, 16, none⟩ = some (.bool dk) := BX6.cell 16 rfl; have kw6_17 : w6.cell? ⟨w.heap.size, 17, none⟩ = some (.int .u8 sg) := BX6.cell 17 rfl; have rw6_17 : w6.cell? ⟨w3.heap.size, 17, none⟩ = some (.int .i64 ((-1))) := RX6.cell 17 rfl; have fw6_17 := RX6.free 17; have rw6_18 : w6.cell? ⟨w3.heap.size, 18, none⟩ = some (.int .i64 idM.a) := RX6.cell 18 rfl; have fw6_18 := RX6.free 18; have rw6_19 : w6.cell? ⟨w3.heap.size, 19, none⟩ = some (.int .i64 idM.b) := RX6.cell 19 rfl; have fw6_19 := RX6.free 19; have rw6_20 : w6.cell? ⟨w3.heap.size, 20, none⟩ = some (.int .i64 idM.c) := RX6.cell 20 rfl; have fw6_20 := RX6.free 20; have rw6_21 : w6.cell? ⟨w3.heap.size, 21, none⟩ = some (.int .i64 idM.d) := RX6.cell 21 rfl; have fw6_21 := RX6.free 21; have rw6_22 : w6.cell? ⟨w3.heap.size, 22, none⟩ = some (.int .i64 idM.x) := RX6.cell 22 rfl; have fw6_22 := RX6.free 22; have rw6_23 : w6.cell? ⟨w3.heap.size, 23, none⟩ = some (.int .i64 idM.y) := RX6.cell 23 rfl; have fw6_23 := RX6.free 23; clear hr6 hc6 BX6))
    go_cut [] from 12 (fun wx => All w g p c w3.heap.size w4.heap.size ct fx ft x y pl dk sg n C F FM false C F FM false (.slice none 0 0) ⟨n, [], Z, Z⟩ (.slice none 0 0) wx)
    case first =>
      go_wp2
      · go_region
        all_goals go_wp2
        all_goals go_meet
        all_goals
          case rel =>
            obtain rfl := (font_of HF.out).1 (by assumption)
            obtain rfl := (font_of HFM.out).1 (by assumption)
            exact HA6.out.onS ap (by exact ro) (by (repeat' (first | (with_reducible first | exact Chg.refl _ _ | assumption | refine Chg.alloc ?_ _ | refine Chg.drew ?_ | refine Chg.drewN ?_ _ | refine Chg.setCell ?_ ?_ _ | refine Chg.upc ?_ (by assumption) | refine Chg.call ?_ (by assumption) ?_) | (refine Or.inl ?_; (simp; done)) | (simp; done) | (simp; omega) | omega)))
      · go_meet
        case rel =>
          obtain rfl := (font_of HF.out).2 (by assumption)
          obtain rfl := (font_of HFM.out).2 (by assumption)
          exact HA6.out
    case rest =>

      have HA2 := Lib.hid hcut
      rename World => c2
      have BX2 := HA2.out.box
      have lbx2 := BX2.lt
      have RX2 := HA2.out.rs
      have lrx2 := RX2.lt
      have kc2_0 : c2.cell? ⟨w.heap.size, 0, none⟩ = some (.int .i64 ct.a) := BX2.cell 0 rfl
      have kc2_1 : c2.cell? ⟨w.heap.size, 1, none⟩ = some (.int .i64 ct.b) := BX2.cell 1 rfl
      have kc2_2 : c2.cell? ⟨w.heap.size, 2, none⟩ = some (.int .i64 ct.c) := BX2.cell 2 rfl
      have kc2_3 : c2.cell? ⟨w.heap.size, 3, none⟩ = some (.int .i64 ct.d) := BX2.cell 3 rfl
      have kc2_4 : c2.cell? ⟨w.heap.size, 4, none⟩ = some (.int .i64 ct.x) := BX2.cell 4 rfl
      have kc2_5 : c2.cell? ⟨w.heap.size, 5, none⟩ = some (.int .i64 ct.y) := BX2.cell 5 rfl
      have kc2_6 : c2.cell? ⟨w.heap.size, 6, none⟩ = some (.int .i64 fx.a) := BX2.cell 6 rfl
      have kc2_7 : c2.cell? ⟨w.heap.size, 7, none⟩ = some (.int .i64 fx.b) := BX2.cell 7 rfl
      have kc2_8 : c2.cell? ⟨w.heap.size, 8, none⟩ = some (.int .i64 fx.c) := BX2.cell 8 rfl
      have kc2_9 : c2.cell? ⟨w.heap.size, 9, none⟩ = some (.int .i64 fx.d) := BX2.cell 9 rfl
      have kc2_10 : c2.cell? ⟨w.heap.size, 10, none⟩ = some (.int .i64 fx.x) := BX2.cell 10 rfl
      have kc2_11 : c2.cell? ⟨w.heap.size, 11, none⟩ = some (.int .i64 fx.y) := BX2.cell 11 rfl
      have kc2_12 : c2.cell? ⟨w.heap.size, 12, none⟩ = some (.int .i64 ft) := BX2.cell 12 rfl
      have kc2_13 : c2.cell? ⟨w.heap.size, 13, none⟩ = some (.int .i64 x) := BX2.cell 13 rfl
      have kc2_14 : c2.cell? ⟨w.heap.size, 14, none⟩ = some (.int .i64 y) := BX2.cell 14 rfl
      have kc2_15 : c2.cell? ⟨w.heap.size, 15, none⟩ = some (.bool pl) := BX2.cell 15 rfl
      have kc2_16 : c2.cell? ⟨w.heap.size, 16, none⟩ = some (.bool dk) := BX2.cell 16 rfl
      have kc2_17 : c2.cell? ⟨w.heap.size, 17, none⟩ = some (.int .u8 sg) := BX2.cell 17 rfl
      clear hcut

      go_upto_if 49 with fail
      go_cut [0] from 12 (fun s0 wx => s0 = .agg #[.int .i64 ct.a, .int .i64 ct.b, .int .i64 ct.c, .int .i64 ct.d, .int .i64 ct.x, .int .i64 ct.y, .int .i64 fx.a, .int .i64 fx.b, .int .i64 fx.c, .int .i64 fx.d, .int .i64 fx.x, .int .i64 fx.y, .int .i64 ft, .int .i64 x, .int .i64 y, .bool pl, .bool dk, .int .u8 sg] ∧ All w g p c w3.heap.size w4.heap.size ct fx ft x y pl dk sg n C F FM dk C F FM dk (.slice none 0 0) ⟨n, [], Z, Z⟩ (.slice none 0 0) wx)
      case first =>
        go_wp2_with (first
          | (go_at_call 23; ((with_reducible refine (clip_calls g _ _ _ _ _ _ _ p _ _ _ _ _ _ HA2.out.gs HA2.out.pt rfl).mono ?_); rintro E w7 ⟨rfl, hr7, hc7⟩; have HA7 := Lib.hid (HA2.out.onG ap hr7 hc7)))
          | (go_at_call 24; ((with_reducible refine (rclip_calls w3.heap.size _ _ _ _ _ _ _ HA7.out.rs).mono ?_); rintro E w8 ⟨rfl, hr8, hc8⟩; have HA8 := Lib.hid (HA7.out.onS ap hr8 hc8))))
        all_goals go_meet
        case rel =>
          obtain rfl : dk = true := by assumption
          exact ⟨rfl, HA8.out⟩
        case rel =>
          obtain rfl : dk = false := by assumption
          exact ⟨rfl, HA2.out⟩
      case rest =>
        obtain ⟨rfl, hcut⟩ := hcut
        have HA3 := Lib.hid hcut
        rename World => c3
        have BX3 := HA3.out.box
        have lbx3 := BX3.lt
        have RX3 := HA3.out.rs
        have lrx3 := RX3.lt
        have kc3_0 : c3.cell? ⟨w.heap.size, 0, none⟩ = some (.int .i64 ct.a) := BX3.cell 0 rfl
        have kc3_1 : c3.cell? ⟨w.heap.size, 1, none⟩ = some (.int .i64 ct.b) := BX3.cell 1 rfl
        have kc3_2 : c3.cell? ⟨w.heap.size, 2, none⟩ = some (.int .i64 ct.c) := BX3.cell 2 rfl
        have kc3_3 : c3.cell? ⟨w.heap.size, 3, none⟩ = some (.int .i64 ct.d) := BX3.cell 3 rfl
        have kc3_4 : c3.cell? ⟨w.heap.size, 4, none⟩ = some (.int .i64 ct.x) := BX3.cell 4 rfl
        have kc3_5 : c3.cell? ⟨w.heap.size, 5, none⟩ = some (.int .i64 ct.y) := BX3.cell 5 rfl
        have kc3_6 : c3.cell? ⟨w.heap.size, 6, none⟩ = some (.int .i64 fx.a) := BX3.cell 6 rfl
        have kc3_7 : c3.cell? ⟨w.heap.size, 7, none⟩ = some (.int .i64 fx.b) := BX3.cell 7 rfl
        have kc3_8 : c3.cell? ⟨w.heap.size, 8, none⟩ = some (.int .i64 fx.c) := BX3.cell 8 rfl
        have kc3_9 : c3.cell? ⟨w.heap.size, 9, none⟩ = some (.int .i64 fx.d) := BX3.cell 9 rfl
        have kc3_10 : c3.cell? ⟨w.heap.size, 10, none⟩ = some (.int .i64 fx.x) := BX3.cell 10 rfl
        have kc3_11 : c3.cell? ⟨w.heap.size, 11, none⟩ = some (.int .i64 fx.y) := BX3.cell 11 rfl
        have kc3_12 : c3.cell? ⟨w.heap.size, 12, none⟩ = some (.int .i64 ft) := BX3.cell 12 rfl
        have kc3_13 : c3.cell? ⟨w.heap.size, 13, none⟩ = some (.int .i64 x) := BX3.cell 13 rfl
        have kc3_14 : c3.cell? ⟨w.heap.size, 14, none⟩ = some (.int .i64 y) := BX3.cell 14 rfl
        have kc3_15 : c3.cell? ⟨w.heap.size, 15, none⟩ = some (.bool pl) := BX3.cell 15 rfl
        have kc3_16 : c3.cell? ⟨w.heap.size, 16, none⟩ = some (.bool dk) := BX3.cell 16 rfl
        have kc3_17 : c3.cell? ⟨w.heap.size, 17, none⟩ = some (.int .u8 sg) := BX3.cell 17 rfl
        clear hcut
        have ag0 := ap.g0
        have ap0 := ap.p0
        have apc := ap.pc
        have acs := ap.cs
        have asm := ap.sm
        go_upto_if 54 with fail
        go_cut [0] from 12 (fun s0 wx => s0 = .agg #[.int .i64 ct.a, .int .i64 ct.b, .int .i64 ct.c, .int .i64 ct.d, .int .i64 ct.x, .int .i64 ct.y, .int .i64 fx.a, .int .i64 fx.b, .int .i64 fx.c, .int .i64 fx.d, .int .i64 fx.x, .int .i64 fx.y, .int .i64 ft, .int .i64 x, .int .i64 y, .bool pl, .bool dk, .int .u8 sg] ∧ ∃ pv v, All w g p c w3.heap.size w4.heap.size ct fx ft x y pl dk sg n C F FM dk C F FM dk pv T v wx)
        case first =>
          by_cases hf : fitsP (x, y) = true
          · have HH := Lib.hid hf
            clear hf
            go_wp2
            · go_region_held3 (fun w' => w'.cell? ⟨w.heap.size, 13, none⟩ = some (.int .i64 x) ∧ w'.cell? ⟨w.heap.size, 14, none⟩ = some (.int .i64 y)) (first | with_reducible exact ⟨k9_13, k9_14⟩ | with_reducible exact ⟨kc3_13, kc3_14⟩ | go_keep) (first
                | (go_at_call 16; ((with_reducible refine (path_calls g p _ ((show Row _ g (gsC C 65536 (.slice none 0 0) 0 F FM dk p 2 n) from (by have hg3 := HA3.out.gs; exact ra)).cell 26 rfl)).mono ?_); rintro E w90 ⟨rfl, rfl⟩))
                | (go_at_call 25; ((with_reducible refine (move_other p _ ⟨n, [], Z, Z⟩ x y _ (HA3.out.pt.up (by exact ua)) (by simp) (by simp [lastK])).mono ?_); rintro E w9 ⟨rfl, hl⟩; have hl2 := Path.Left.of_up (show Up c3 _ by exact ua) hl; have HL := Lib.hid hl2; have hcp : Chg [p] c3 w9 := (by obtain ⟨_, _, h2, _⟩ := hl2; exact h2); have bx9 := HA3.out.box.chg hcp (by simp; omega); have rs9 := HA3.out.rs.chg hcp (by simp; omega); have k9_13 : w9.cell? ⟨w.heap.size, 13, none⟩ = some (.int .i64 x) := bx9.cell 13 rfl; have k9_14 : w9.cell? ⟨w.heap.size, 14, none⟩ = some (.int .i64 y) := bx9.cell 14 rfl; clear hl hl2)))
              all_goals go_wp2_with (go_at_call 26; ((with_reducible refine (rmove_calls w3.heap.size _ _ _ _ n x y hn1 _ rs9).mono ?_); rintro E w10 hor; (obtain ⟨rfl, hmv⟩ : E = .returned (.int .i64 0) ∧ Moved w9 w3.heap.size C F FM dk n x y w10 := (by rcases hor with ⟨h0, h1, h2⟩ | ⟨h0, h1, h2⟩ <;> first | exact ⟨h1, h2⟩ | (rw [HH.out] at h0; cases h0))); clear hor))
              all_goals go_meet
              all_goals
                case rel =>
                  obtain rfl : pl = true := by assumption
                  have hT2 : T = (St.move ⟨n, [], Z, Z⟩ (x, y)).1 := by rw [← HTT.out, if_pos rfl]
                  subst hT2
                  exact ⟨rfl, HA3.out.onM ap HL.out (Or.inl ⟨mv_true hn1 HH.out, hmv⟩)⟩
            · go_meet
              case rel =>
                obtain rfl : pl = false := by assumption
                have hT2 : T = ⟨n, [], Z, Z⟩ := by rw [← HTT.out, if_neg (by decide)]
                subst hT2
                exact ⟨rfl, _, _, HA3.out⟩
          · have hf : fitsP (x, y) = false := by simpa using hf
            have HH := Lib.hid hf
            clear hf
            go_wp2
            · go_region_held3 (fun w' => w'.cell? ⟨w.heap.size, 13, none⟩ = some (.int .i64 x) ∧ w'.cell? ⟨w.heap.size, 14, none⟩ = some (.int .i64 y)) (first | with_reducible exact ⟨k9_13, k9_14⟩ | with_reducible exact ⟨kc3_13, kc3_14⟩ | go_keep) (first
                | (go_at_call 16; ((with_reducible refine (path_calls g p _ ((show Row _ g (gsC C 65536 (.slice none 0 0) 0 F FM dk p 2 n) from (by have hg3 := HA3.out.gs; exact ra)).cell 26 rfl)).mono ?_); rintro E w90 ⟨rfl, rfl⟩))
                | (go_at_call 25; ((with_reducible refine (move_other p _ ⟨n, [], Z, Z⟩ x y _ (HA3.out.pt.up (by exact ua)) (by simp) (by simp [lastK])).mono ?_); rintro E w9 ⟨rfl, hl⟩; have hl2 := Path.Left.of_up (show Up c3 _ by exact ua) hl; have HL := Lib.hid hl2; have hcp : Chg [p] c3 w9 := (by obtain ⟨_, _, h2, _⟩ := hl2; exact h2); have bx9 := HA3.out.box.chg hcp (by simp; omega); have rs9 := HA3.out.rs.chg hcp (by simp; omega); have k9_13 : w9.cell? ⟨w.heap.size, 13, none⟩ = some (.int .i64 x) := bx9.cell 13 rfl; have k9_14 : w9.cell? ⟨w.heap.size, 14, none⟩ = some (.int .i64 y) := bx9.cell 14 rfl; clear hl hl2)))
              all_goals go_wp2_with (go_at_call 26; ((with_reducible refine (rmove_calls w3.heap.size _ _ _ _ n x y hn1 _ rs9).mono ?_); rintro E w10 hor; (obtain ⟨rfl, hmv⟩ : E = .returned (.int .i64 11) ∧ Up w9 w10 := (by rcases hor with ⟨h0, h1, h2⟩ | ⟨h0, h1, h2⟩ <;> first | exact ⟨h1, h2⟩ | (rw [HH.out] at h0; cases h0))); clear hor))
              all_goals go_meet
              all_goals
                case rel =>
                  obtain rfl : pl = true := by assumption
                  have hT2 : T = (St.move ⟨n, [], Z, Z⟩ (x, y)).1 := by rw [← HTT.out, if_pos rfl]
                  subst hT2
                  exact ⟨rfl, HA3.out.onM ap HL.out (Or.inr ⟨mv_false HH.out, hmv⟩)⟩
            · go_meet
              case rel =>
                obtain rfl : pl = false := by assumption
                have hT2 : T = ⟨n, [], Z, Z⟩ := by rw [← HTT.out, if_neg (by decide)]
                subst hT2
                exact ⟨rfl, _, _, HA3.out⟩
        case rest =>
          obtain ⟨rfl, pv, v, hcut⟩ := hcut
          have HA4 := Lib.hid hcut
          rename World => c4
          have BX4 := HA4.out.box
          have lbx4 := BX4.lt
          have RX4 := HA4.out.rs
          have lrx4 := RX4.lt
          have kc4_0 : c4.cell? ⟨w.heap.size, 0, none⟩ = some (.int .i64 ct.a) := BX4.cell 0 rfl
          have kc4_1 : c4.cell? ⟨w.heap.size, 1, none⟩ = some (.int .i64 ct.b) := BX4.cell 1 rfl
          have kc4_2 : c4.cell? ⟨w.heap.size, 2, none⟩ = some (.int .i64 ct.c) := BX4.cell 2 rfl
          have kc4_3 : c4.cell? ⟨w.heap.size, 3, none⟩ = some (.int .i64 ct.d) := BX4.cell 3 rfl
          have kc4_4 : c4.cell? ⟨w.heap.size, 4, none⟩ = some (.int .i64 ct.x) := BX4.cell 4 rfl
          have kc4_5 : c4.cell? ⟨w.heap.size, 5, none⟩ = some (.int .i64 ct.y) := BX4.cell 5 rfl
          have kc4_6 : c4.cell? ⟨w.heap.size, 6, none⟩ = some (.int .i64 fx.a) := BX4.cell 6 rfl
          have kc4_7 : c4.cell? ⟨w.heap.size, 7, none⟩ = some (.int .i64 fx.b) := BX4.cell 7 rfl
          have kc4_8 : c4.cell? ⟨w.heap.size, 8, none⟩ = some (.int .i64 fx.c) := BX4.cell 8 rfl
          have kc4_9 : c4.cell? ⟨w.heap.size, 9, none⟩ = some (.int .i64 fx.d) := BX4.cell 9 rfl
          have kc4_10 : c4.cell? ⟨w.heap.size, 10, none⟩ = some (.int .i64 fx.x) := BX4.cell 10 rfl
          have kc4_11 : c4.cell? ⟨w.heap.size, 11, none⟩ = some (.int .i64 fx.y) := BX4.cell 11 rfl
          have kc4_12 : c4.cell? ⟨w.heap.size, 12, none⟩ = some (.int .i64 ft) := BX4.cell 12 rfl
          have kc4_13 : c4.cell? ⟨w.heap.size, 13, none⟩ = some (.int .i64 x) := BX4.cell 13 rfl
          have kc4_14 : c4.cell? ⟨w.heap.size, 14, none⟩ = some (.int .i64 y) := BX4.cell 14 rfl
          have kc4_15 : c4.cell? ⟨w.heap.size, 15, none⟩ = some (.bool pl) := BX4.cell 15 rfl
          have kc4_16 : c4.cell? ⟨w.heap.size, 16, none⟩ = some (.bool dk) := BX4.cell 16 rfl
          have kc4_17 : c4.cell? ⟨w.heap.size, 17, none⟩ = some (.int .u8 sg) := BX4.cell 17 rfl
          clear hcut
          obtain ⟨va, vc, hv⟩ := Path.Segs.val HA4.out.sg
          subst hv
          go_wp2
          refine wp_region_held_drew (S := fun w' => Row w' w3.heap.size (rsC C F FM dk n (.slice va T.l.length vc)) ∧ Row w' w4.heap.size #[.int .i64 6553600, .int .i64 6553600, .slice none 0 0, .int .i64 2, .slice none 0 0]) (by kernel_rfl) ?_ (fun hHeld => ?_)
          · exact ⟨Row.drew HA4.out.rs, Row.drew HA4.out.rm⟩
          refine wpAnyH_take (i := 0) (v := ?_) rfl (by kernel_rfl) (by kernel_rfl) (by kernel_rfl) (fun _ _ _ h => h) (Or.inl ⟨by rfl, ?_⟩) (by assumption) ?_
          rotate_left
          · intro w2 hSw
            (try dsimp only at hSw)
            go_simp
            (try (with_reducible rfl))
          (try simp only [Act.put, lga, lgz, lgs, lsa, lsz, lss])
          refine wpAnyH_take (i := 1) (v := ?_) rfl (by kernel_rfl) (by kernel_rfl) (by kernel_rfl) (fun _ _ _ h => h) (Or.inl ⟨by rfl, ?_⟩) (by assumption) ?_
          rotate_left
          · intro w2 hSw
            (try dsimp only at hSw)
            go_simp
            (try (with_reducible rfl))
          (try simp only [Act.put, lga, lgz, lgs, lsa, lsz, lss])
          refine wpAnyH_take (i := 4) (v := ?_) rfl (by kernel_rfl) (by kernel_rfl) (by kernel_rfl) (fun _ _ _ h => h) (Or.inl ⟨by rfl, ?_⟩) (by assumption) ?_
          rotate_left
          · intro w2 hSw
            (try dsimp only at hSw)
            go_simp
            (try (with_reducible rfl))
          (try simp only [Act.put, lga, lgz, lgs, lsa, lsz, lss])
          refine wpAnyH_take (i := 5) (v := ?_) rfl (by kernel_rfl) (by kernel_rfl) (by kernel_rfl) (fun _ _ _ h => h) (Or.inl ⟨by rfl, ?_⟩) (by assumption) ?_
          rotate_left
          · intro w2 hSw
            (try dsimp only at hSw)
            go_simp
            (try (with_reducible rfl))
          (try simp only [Act.put, lga, lgz, lgs, lsa, lsz, lss])
          refine wpAnyH_take (i := 2) rfl (by kernel_rfl) (by kernel_rfl) (by kernel_rfl) (fun _ _ _ h => h) (yieldsIf_load_mid (by rfl) 42 (.tmp 10) rfl w3.heap.size 0 rfl (rsC C F FM dk n (.slice va T.l.length vc)).toList _ (fun _ h => rng0 h.1) Tryd.underlying42 rfl (by exact infoRs)) (by assumption) ?_
          (try simp only [Act.put, lga, lgz, lgs, lsa, lsz, lss])
          refine wpAnyH_take (i := 3) rfl (by kernel_rfl) (by kernel_rfl) (by kernel_rfl) (fun _ _ _ h => h) (yieldsIf_load_mid (by rfl) 48 (.tmp 11) rfl w4.heap.size 0 rfl #[.int .i64 6553600, .int .i64 6553600, .slice none 0 0, .int .i64 2, .slice none 0 0].toList _ (fun _ h => rng0 h.2) Tryd.underlying48 rfl (by exact infoCv)) (by assumption) ?_
          (try simp only [Act.put, lga, lgz, lgs, lsa, lsz, lss])
          refine wpAnyH_ready (rs := [6]) (by decide +kernel) (by simp) ?_
          refine AllReadyH.cons rfl (fun K hK => ?_) AllReadyH.nil
          (try simp only [lga, lgz, lgs])
          (rw [if_pos (by rfl)]; refine wp_store_RowS 42 (.tmp 4) (.tmp 66) rfl (w.heap.size + 1) (rsC C F FM dk n (.slice va T.l.length vc)) rfl rfl #[.int .i64 0, .int .i64 0, .int .i64 0, .int .i64 0, .int .i64 0, .int .i64 0, .int .i64 0, .int .i64 0, .int .i64 0, .int .i64 0, .int .i64 0, .int .i64 0, .int .i64 0, .int .i64 0, .int .i64 0, .slice none 0 0, .int .i64 0, .int .i64 0, .int .i64 0, .int .i64 0, .int .i64 0, .int .i64 0, .int .i64 0, .int .i64 0, .slice none 0 0, .bool false, .int .i64 0, .slice none 0 0] (Row.drew HA4.out.z1) infoRs rfl rfl (by simp [rsC, Value.oneCell']) ?_); intro wd hr_wd hc_wd
          refine hK.out _ _ ?_ (fun hHeld => ?_)
          · exact ⟨hHeld.1.chg hc_wd (by simp; omega), hHeld.2.chg hc_wd (by simp; omega)⟩
          clear hK K
          (try simp only [Act.put, lga, lgz, lgs, lsa, lsz, lss])
          refine wpAnyH_ready (rs := [7]) (by decide +kernel) (by simp) ?_
          refine AllReadyH.cons rfl (fun K hK => ?_) AllReadyH.nil
          (try simp only [lga, lgz, lgs])
          (rw [if_pos (by rfl)]; refine wp_store_RowS 48 (.tmp 5) (.tmp 67) rfl (w.heap.size + 1 + 1) #[.int .i64 6553600, .int .i64 6553600, .slice none 0 0, .int .i64 2, .slice none 0 0] rfl rfl #[.int .i64 0, .int .i64 0, .slice none 0 0, .int .i64 0, .slice none 0 0] ((Row.drew HA4.out.z2).chg hc_wd (by simp)) infoCv rfl rfl (by simp [rsC, Value.oneCell']) ?_); intro we hr_we hc_we
          refine hK.out _ _ ?_ (fun hHeld => ?_)
          · exact ⟨hHeld.1.chg hc_we (by simp; omega), hHeld.2.chg hc_we (by simp; omega)⟩
          clear hK K
          (try simp only [Act.put, lga, lgz, lgs, lsa, lsz, lss])
          refine wpAnyH_done (by kernel_rfl) ?_ _
          (try simp only [Exit.inBlock, Exit.then])
          apply_assumption
          apply wp_ret
          have hcE : Chg [w.heap.size + 1, w.heap.size + 1 + 1] c4 we := ((((Chg.refl [w.heap.size + 1, w.heap.size + 1 + 1] c4).drew).call hc_wd (fun k hk => Or.inl (by simp at hk; simp [hk]))).call hc_we (fun k hk => Or.inl (by simp at hk; simp [hk])))
          refine bodyPost_ret (results_open _ _ g c (w.heap.size + 1) (w.heap.size + 1 + 1) _ _ rfl rfl rfl rfl (hr_wd.chg hc_we (by simp)) rfl hr_we rfl) rfl ?_
          exact ⟨g, p, c, pv, .slice va T.l.length vc, C, F, FM, T, HC.out, HF.out, HFM.out, HTT.out, rfl, HA4.out.gs.chg hcE (by simp; omega), HA4.out.pt.chg hcE (by simp; omega) (fun k hk => by have := HA4.out.po k hk; simp; omega), HA4.out.cv.chg hcE (by simp; omega), HA4.out.sg.chg hcE (fun k hk => by have := HA4.out.so k hk; simp; omega), (HA4.out.up.call hcE (fun k hk => by simp at hk; omega)).up, ⟨by have := ap.g0; omega, by have := ap.p0; omega, ap.pg, ap.gc, ap.pc, fun k hk => by have := HA4.out.po k hk; have := ap.cs; have := ap.sm; omega, fun k hk => by have := HA4.out.so k hk; have := ap.cs; have := ap.sm; omega, HA4.out.pd⟩⟩

theorem open_calls (ct fx : M6) (ft x y : Int) (pl dk : Bool) (sg n : Int) (hsg : 0 ≤ sg) (hn : sg % 10 + 1 = n) (w : World) (hT : Font.Tab w) :
    Calls Tryd.prog 7 #[.agg #[.int .i64 ct.a, .int .i64 ct.b, .int .i64 ct.c, .int .i64 ct.d, .int .i64 ct.x, .int .i64 ct.y, .int .i64 fx.a, .int .i64 fx.b, .int .i64 fx.c, .int .i64 fx.d, .int .i64 fx.x, .int .i64 fx.y, .int .i64 ft, .int .i64 x, .int .i64 y, .bool pl, .bool dk, .int .u8 sg]] w fun E w' => ∃ (g p c : Nat) (pv v : Value) (C : M6) (F : Int) (FM : M6) (T : St), (if chk (lM ct) = 0 then ct else idM) = C ∧ (if sfE ft fx = 0 then ft else -1) = F ∧ (if sfE ft fx = 0 then fx else idM) = FM ∧ (if pl = true then (St.move ⟨n, [], Z, Z⟩ (x, y)).1 else ⟨n, [], Z, Z⟩) = T ∧ E = .returned (.tuple #[.pointer (some ⟨g, 0, none⟩), .pointer (some ⟨c, 0, none⟩), .agg (rsC C F FM dk n v), .agg #[.int .i64 6553600, .int .i64 6553600, .slice none 0 0, .int .i64 2, .slice none 0 0]]) ∧ Row w' g (gsC C 65536 (.slice none 0 0) 0 F FM dk p 2 n) ∧ PathIs w' p pv T ∧ Row w' c #[.int .i64 6553600, .int .i64 6553600, .slice none 0 0, .int .i64 2, .slice none 0 0] ∧ Segs w' v T.l ∧ Up w w' :=
  (open_callsX ct fx ft x y pl dk sg n hsg hn w hT).mono (by
    rintro E w' ⟨g, p, c, pv, v, C, F, FM, T, h1, h2, h3, h4, h5, h6, h7, h8, h9, h10, _⟩
    exact ⟨g, p, c, pv, v, C, F, FM, T, h1, h2, h3, h4, h5, h6, h7, h8, h9, h10⟩)

end Go.Proofs.YtjdbefpfjhdmoaaDoor.Sh
end

section
namespace Go.Proofs.YtjdbefpfjhdmoaaDoor.Sh
open Go.Proofs.YtjdbefpfjhdmoaaDoor.ZGJ
open Go.ChangeShapes Go.WideShapes Go.ChangeAt Go.RowKit
open Go.Proofs.YtjdbefpfjhdmoaaDoor.Gs
open Go.Proofs.YtjdbefpfjhdmoaaDoor.FixM (fits)
open Go.Proofs.YtjdbefpfjhdmoaaDoor.MatM (M6 delta)
open Go.Proofs.YtjdbefpfjhdmoaaDoor.FontM Go.Proofs.YtjdbefpfjhdmoaaDoor.Font
set_option linter.unusedVariables false
set_option linter.unusedSimpArgs false

set_option maxHeartbeats 400000 in
theorem sum_calls (i : Int) (v : Value) (zs : List Int) (w : World) (hv : Ints .u8 w v zs) (hl : zs.length ≤ 100000) :
    Calls Tryd.prog 53 #[.int .i64 i, v] w fun e w' => e = .returned (.int .i64 (sumW i zs)) ∧ Up w w' := by
  obtain ⟨ao, c, rfl, hlc, hcm, hnone, hsome, hwf⟩ := hv
  have HS := Lib.hid hsome
  have HW := Lib.hid hwf
  have HL := Lib.hid hl
  clear hsome hwf hnone
  go_enter Tryd.func53, Tryd.ntmps53
  go_wp2
  go_loopw [5, 10] (fun n j wr => ∃ (k : Nat) (x : Int), k ≤ zs.length ∧ j = .int .i64 k ∧ n = .int .i64 x ∧ Hid (sumW i (zs.take k) = x) ∧ 0 ≤ x ∧ x ≤ 200000000 ∧ Up w wr) (fun _ j _ => zs.length - (intOf j).toNat)
  case atStart => exact ⟨0, 0, Nat.zero_le _, rfl, rfl, Lib.hid rfl, by decide, by decide, Up.refl _⟩
  case round =>
    obtain ⟨k, x, hk, rfl, rfl, HX, hx0, hx1, hup⟩ := hrel
    by_cases hlt : k < zs.length
    · obtain ⟨b, o, rfl, hb, hc⟩ := HS.out (by omega)
      have hcell : wr.cell? ⟨b, o + k, none⟩ = some (.int .u8 (zs.getD k 0)) := by rw [hup.cells.1 b _ hb]; exact hc k hlt
      have hgz : zs.getD k 0 = zs[k] := by simp [List.getD, hlt]
      have hz := bounds_u8 (HW.out (zs.getD k 0) (by rw [hgz]; exact List.getElem_mem hlt))
      have hz0 := hz.1
      have hz1 := hz.2
      have HN : Hid (sumW i (zs.take (k + 1)) = x + width i (zs.getD k 0)) := Lib.hid (by
        rw [List.take_succ_eq_append_getElem hlt, sumW_append, HX.out, hgz]
        simp [sumW])
      have HB := Lib.hid (sumW_bound i (zs.take (k + 1)))
      clear hgz hz hc
      generalize zs.getD k 0 = z at *
      have hw0 := (width_bound i z).1
      have hw1 := (width_bound i z).2
      go_wp2_with (go_at_call 75; ((with_reducible refine (width_calls _ _ _ hz0 hz1).mono ?_); rintro e w' ⟨rfl, hu2⟩))
      go_roundw
      case rel => exact ⟨k + 1, x + width i z, by omega, by go_num, rfl, HN, by omega, by
        have h1 := HB.out
        have h3 := HL.out
        rw [HN.out] at h1
        have h4 : (zs.take (k + 1)).length ≤ 100000 := by simp; omega
        omega, by exact ua⟩
      case measure => simp [intOf]; omega
    · have HE : Hid (sumW i zs = x) := Lib.hid (by rw [← HX.out, List.take_of_length_le (by omega)])
      go_wp2
      go_ret
      exact ⟨by rw [HE.out]; rfl, by exact ua⟩

set_option maxHeartbeats 400000 in
theorem rsum_calls (i : Int) (v : Value) (zs : List Int) (w : World) (hv : Ints .u8 w v zs) (hl : zs.length ≤ 100000) :
    Calls Tryd.prog 30 #[.int .i64 i, v] w fun e w' => e = .returned (.int .i64 (sumW i zs)) ∧ Up w w' := by
  obtain ⟨ao, c, rfl, hlc, hcm, hnone, hsome, hwf⟩ := hv
  have HS := Lib.hid hsome
  have HW := Lib.hid hwf
  have HL := Lib.hid hl
  clear hsome hwf hnone
  go_enter Tryd.func30, Tryd.ntmps30
  go_wp2
  go_loopw [5, 6] (fun n j wr => ∃ (k : Nat) (x : Int), k ≤ zs.length ∧ j = .int .i64 k ∧ n = .int .i64 x ∧ Hid (sumW i (zs.take k) = x) ∧ 0 ≤ x ∧ x ≤ 200000000 ∧ Up w wr) (fun _ j _ => zs.length - (intOf j).toNat)
  case atStart => exact ⟨0, 0, Nat.zero_le _, rfl, rfl, Lib.hid rfl, by decide, by decide, Up.refl _⟩
  case round =>
    obtain ⟨k, x, hk, rfl, rfl, HX, hx0, hx1, hup⟩ := hrel
    by_cases hlt : k < zs.length
    · obtain ⟨b, o, rfl, hb, hc⟩ := HS.out (by omega)
      have hcell : wr.cell? ⟨b, o + k, none⟩ = some (.int .u8 (zs.getD k 0)) := by rw [hup.cells.1 b _ hb]; exact hc k hlt
      have hgz : zs.getD k 0 = zs[k] := by simp [List.getD, hlt]
      have hz := bounds_u8 (HW.out (zs.getD k 0) (by rw [hgz]; exact List.getElem_mem hlt))
      have hz0 := hz.1
      have hz1 := hz.2
      have HN : Hid (sumW i (zs.take (k + 1)) = x + width i (zs.getD k 0)) := Lib.hid (by
        rw [List.take_succ_eq_append_getElem hlt, sumW_append, HX.out, hgz]
        simp [sumW])
      have HB := Lib.hid (sumW_bound i (zs.take (k + 1)))
      clear hgz hz hc
      generalize zs.getD k 0 = z at *
      have hw0 := (width_bound i z).1
      have hw1 := (width_bound i z).2
      go_wp2_with (go_at_call 56; ((with_reducible refine (rwidth_calls _ _ _ hz0 hz1).mono ?_); rintro e w' ⟨rfl, hu2⟩))
      go_roundw
      case rel => exact ⟨k + 1, x + width i z, by omega, by go_num, rfl, HN, by omega, by
        have h1 := HB.out
        have h3 := HL.out
        rw [HN.out] at h1
        have h4 : (zs.take (k + 1)).length ≤ 100000 := by simp; omega
        omega, by exact ua⟩
      case measure => simp [intOf]; omega
    · have HE : Hid (sumW i zs = x) := Lib.hid (by rw [← HX.out, List.take_of_length_le (by omega)])
      go_wp2
      go_ret
      exact ⟨by rw [HE.out]; rfl, by exact ua⟩

/-- a number over a thousand, rounded -/
def thou (n : Int) : Int := if 1000 ≤ 2 * (n % 1000) then n / 1000 + 1 else n / 1000
/-- how far letters go -/
def farR (fn : Int) (fm : M6) (zs : List Int) : (Int × Int) × Int := if fits (thou (sumW fn zs * 65536)) then delta fm.a fm.b fm.c fm.d (thou (sumW fn zs * 65536)) 0 else ((0, 0), 18)
abbrev ptE (r : (Int × Int) × Int) : Ending := .returned (.tuple #[.agg #[.int .i64 r.1.1, .int .i64 r.1.2], .int .i64 r.2])
theorem results_pt {fn : Func} (h : fn.results = #[.cell 4 24, .tmp 5]) (tmps : Array Value) (w : World) (b : Nat) (x y e : Int) (hr : Row w b #[.int .i64 x, .int .i64 y]) (e4 : tmps.getD 4 undef = .pointer (some ⟨b, 0, none⟩)) (e5 : tmps.getD 5 undef = .int .i64 e) :
    (results fn tmps).run Tryd.prog w = .ok (.tuple #[.agg #[.int .i64 x, .int .i64 y], .int .i64 e]) w := by
  rw [Array.getD_eq_getD_getElem?] at e4 e5
  have c0 : w.cell? ⟨b, 0, none⟩ = some (.int .i64 x) := hr.cell 0 rfl
  have c1 : w.cell? ⟨b, 1, none⟩ = some (.int .i64 y) := hr.cell 1 rfl
  simp [results, h, go_sem, e4, e5, c0, c1]

set_option maxRecDepth 8000 in
set_option maxHeartbeats 2000000 in
theorem far_calls (c : M6) (wd ph fn : Int) (fm : M6) (clips : Value) (dk : Bool) (v : Value) (zs : List Int) (w : World) (hv : Ints .u8 w v zs) (hl : zs.length ≤ 100000) :
    Calls Tryd.prog 28 #[.agg #[.int .i64 c.a, .int .i64 c.b, .int .i64 c.c, .int .i64 c.d, .int .i64 c.x, .int .i64 c.y, .int .i64 1, .int .i64 0, .int .i64 0, .int .i64 0, .int .i64 0, .int .i64 wd, .int .i64 0, .int .i64 0, .int .i64 655360, .slice none 0 0, .int .i64 ph, .int .i64 fn, .int .i64 fm.a, .int .i64 fm.b, .int .i64 fm.c, .int .i64 fm.d, .int .i64 fm.x, .int .i64 fm.y, clips, .bool dk], v] w fun E w' => E = ptE (farR fn fm zs) ∧ Up w w' := by
  have HV := Lib.hid hv
  clear hv
  have hb := sumW_bound fn zs
  obtain ⟨X, hX⟩ : ∃ X, sumW fn zs = X := ⟨_, rfl⟩
  rw [hX] at hb
  have HX := Lib.hid hX
  obtain ⟨N, hN⟩ : ∃ N, X * 65536 = N := ⟨_, rfl⟩
  have hX0 : 0 ≤ X := hb.1
  have hX1 : X ≤ 200000000 := by omega
  have hN0 : 0 ≤ N := by omega
  have hN1 : N ≤ 13107200000000 := by omega
  obtain ⟨q, hq⟩ : ∃ q, N / 1000 = q := ⟨_, rfl⟩
  obtain ⟨r, hr⟩ : ∃ r, N % 1000 = r := ⟨_, rfl⟩
  have hq2 : N.tdiv 1000 = q := by rw [Int.tdiv_eq_ediv_of_nonneg hN0]; exact hq
  have hr2 : N.tmod 1000 = r := by rw [Int.tmod_eq_emod_of_nonneg hN0]; exact hr
  have hr0 : 0 ≤ r := by omega
  have hr1 : r < 1000 := by omega
  have hq0 : 0 ≤ q := by omega
  have hq1 : q ≤ 13107200000 := by omega
  have hE : farR fn fm zs = (if fits (thou N) then delta fm.a fm.b fm.c fm.d (thou N) 0 else ((0, 0), 18)) := by unfold farR; rw [hX, hN]
  obtain ⟨Q, hQ⟩ : ∃ Q, thou N = Q := ⟨_, rfl⟩
  rw [hQ] at hE
  obtain ⟨D, hD⟩ : ∃ D, delta fm.a fm.b fm.c fm.d Q 0 = D := ⟨_, rfl⟩
  rw [hD] at hE
  have HD := Lib.hid hD
  have HE := Lib.hid hE
  clear hX hb hE hD
  unfold thou at hQ
  rw [hr, hq] at hQ
  have two : ∃ dd, decide (1000 ≤ 2 * r) = dd ∧ Q = bif dd then q + 1 else q := by
    by_cases h1 : 1000 ≤ 2 * r
    · exact ⟨true, decide_eq_true h1, by rw [if_pos h1] at hQ; exact hQ.symm⟩
    · exact ⟨false, decide_eq_false h1, by rw [if_neg h1] at hQ; exact hQ.symm⟩
  clear hQ
  obtain ⟨dd, hdd, hQ⟩ := two
  cases dd
  all_goals
    simp only [cond_true, cond_false] at hQ
    subst hQ
    cases hf : fits _
  all_goals have HF := Lib.hid hf
  all_goals clear hf
  next =>
    have HE2 := Lib.hid (show farR fn fm zs = ((0, 0), 18) by rw [HE.out, HF.out]; rfl)
    go_enter Tryd.func28, Tryd.ntmps28
    go_wp2_with (first
      | (go_at_call 53; ((with_reducible refine (sum_calls fn v zs _ (HV.out.up (by exact ua)) hl).mono ?_); rw [HX.out]; rintro E w1 ⟨rfl, hu1⟩; have z1 := hu1.size; (try simp at z1); have RS1 := Row.up (show Row _ w.heap.size #[.int .i64 c.a, .int .i64 c.b, .int .i64 c.c, .int .i64 c.d, .int .i64 c.x, .int .i64 c.y, .int .i64 1, .int .i64 0, .int .i64 0, .int .i64 0, .int .i64 0, .int .i64 wd, .int .i64 0, .int .i64 0, .int .i64 655360, .slice none 0 0, .int .i64 ph, .int .i64 fn, .int .i64 fm.a, .int .i64 fm.b, .int .i64 fm.c, .int .i64 fm.d, .int .i64 fm.x, .int .i64 fm.y, clips, .bool dk] by exact ra) hu1; have RP1 := Row.up (show Row _ (w.heap.size + 1) #[.int .i64 0, .int .i64 0] by exact ra) hu1; have m1_18 : w1.cell? ⟨w.heap.size, 18, none⟩ = some (.int .i64 fm.a) := RS1.cell 18 rfl; have m1_19 : w1.cell? ⟨w.heap.size, 19, none⟩ = some (.int .i64 fm.b) := RS1.cell 19 rfl; have m1_20 : w1.cell? ⟨w.heap.size, 20, none⟩ = some (.int .i64 fm.c) := RS1.cell 20 rfl; have m1_21 : w1.cell? ⟨w.heap.size, 21, none⟩ = some (.int .i64 fm.d) := RS1.cell 21 rfl; have m1_22 : w1.cell? ⟨w.heap.size, 22, none⟩ = some (.int .i64 fm.x) := RS1.cell 22 rfl; have m1_23 : w1.cell? ⟨w.heap.size, 23, none⟩ = some (.int .i64 fm.y) := RS1.cell 23 rfl; have p1_0 : w1.cell? ⟨w.heap.size + 1, 0, none⟩ = some (.int .i64 0) := RP1.cell 0 rfl; have pf1_0 := RP1.free 0; have p1_1 : w1.cell? ⟨w.heap.size + 1, 1, none⟩ = some (.int .i64 0) := RP1.cell 1 rfl; have pf1_1 := RP1.free 1))
      | (go_at_call 54; ((with_reducible refine (Fix.fits_calls _ _).mono ?_); rw [HF.out]; rintro E w2 ⟨rfl, rfl⟩))
      | (go_at_call 55; ((with_reducible refine (Mat.delta_calls fm.a fm.b fm.c fm.d fm.x fm.y _ 0 _).mono ?_); rw [HD.out]; rintro E w3 ⟨rfl, hu3⟩; have z3 := hu3.size; have RP3 := RP1.up hu3; have p3_0 : w3.cell? ⟨w.heap.size + 1, 0, none⟩ = some (.int .i64 0) := RP3.cell 0 rfl; have pf3_0 := RP3.free 0; have p3_1 : w3.cell? ⟨w.heap.size + 1, 1, none⟩ = some (.int .i64 0) := RP3.cell 1 rfl; have pf3_1 := RP3.free 1)))
    (try simp only [Exit.inBlock, Exit.then])
    refine bodyPost_ret (results_pt rfl _ _ (w.heap.size + 1) 0 0 18 (show Row _ (w.heap.size + 1) #[.int .i64 0, .int .i64 0] from (by exact ro)) rfl rfl) rfl ?_
    exact ⟨by rw [HE2.out], (show Chg [] w _ by (repeat' (first | (with_reducible first | exact Chg.refl _ _ | assumption | refine Chg.alloc ?_ _ | refine Chg.drew ?_ | refine Chg.drewN ?_ _ | refine Chg.setCell ?_ ?_ _ | refine Chg.upc ?_ (by assumption) | refine Chg.call ?_ (by assumption) ?_) | (refine Or.inl ?_; (simp; done)) | (simp; done) | (simp; omega) | omega))).up⟩
  next =>
    have HE2 := Lib.hid (show farR fn fm zs = D by rw [HE.out, HF.out]; rfl)
    go_enter Tryd.func28, Tryd.ntmps28
    go_wp2_with (first
      | (go_at_call 53; ((with_reducible refine (sum_calls fn v zs _ (HV.out.up (by exact ua)) hl).mono ?_); rw [HX.out]; rintro E w1 ⟨rfl, hu1⟩; have z1 := hu1.size; (try simp at z1); have RS1 := Row.up (show Row _ w.heap.size #[.int .i64 c.a, .int .i64 c.b, .int .i64 c.c, .int .i64 c.d, .int .i64 c.x, .int .i64 c.y, .int .i64 1, .int .i64 0, .int .i64 0, .int .i64 0, .int .i64 0, .int .i64 wd, .int .i64 0, .int .i64 0, .int .i64 655360, .slice none 0 0, .int .i64 ph, .int .i64 fn, .int .i64 fm.a, .int .i64 fm.b, .int .i64 fm.c, .int .i64 fm.d, .int .i64 fm.x, .int .i64 fm.y, clips, .bool dk] by exact ra) hu1; have RP1 := Row.up (show Row _ (w.heap.size + 1) #[.int .i64 0, .int .i64 0] by exact ra) hu1; have m1_18 : w1.cell? ⟨w.heap.size, 18, none⟩ = some (.int .i64 fm.a) := RS1.cell 18 rfl; have m1_19 : w1.cell? ⟨w.heap.size, 19, none⟩ = some (.int .i64 fm.b) := RS1.cell 19 rfl; have m1_20 : w1.cell? ⟨w.heap.size, 20, none⟩ = some (.int .i64 fm.c) := RS1.cell 20 rfl; have m1_21 : w1.cell? ⟨w.heap.size, 21, none⟩ = some (.int .i64 fm.d) := RS1.cell 21 rfl; have m1_22 : w1.cell? ⟨w.heap.size, 22, none⟩ = some (.int .i64 fm.x) := RS1.cell 22 rfl; have m1_23 : w1.cell? ⟨w.heap.size, 23, none⟩ = some (.int .i64 fm.y) := RS1.cell 23 rfl; have p1_0 : w1.cell? ⟨w.heap.size + 1, 0, none⟩ = some (.int .i64 0) := RP1.cell 0 rfl; have pf1_0 := RP1.free 0; have p1_1 : w1.cell? ⟨w.heap.size + 1, 1, none⟩ = some (.int .i64 0) := RP1.cell 1 rfl; have pf1_1 := RP1.free 1))
      | (go_at_call 54; ((with_reducible refine (Fix.fits_calls _ _).mono ?_); rw [HF.out]; rintro E w2 ⟨rfl, rfl⟩))
      | (go_at_call 55; ((with_reducible refine (Mat.delta_calls fm.a fm.b fm.c fm.d fm.x fm.y _ 0 _).mono ?_); rw [HD.out]; rintro E w3 ⟨rfl, hu3⟩; have z3 := hu3.size; have RP3 := RP1.up hu3; have p3_0 : w3.cell? ⟨w.heap.size + 1, 0, none⟩ = some (.int .i64 0) := RP3.cell 0 rfl; have pf3_0 := RP3.free 0; have p3_1 : w3.cell? ⟨w.heap.size + 1, 1, none⟩ = some (.int .i64 0) := RP3.cell 1 rfl; have pf3_1 := RP3.free 1)))
    (try simp only [Exit.inBlock, Exit.then])
    refine bodyPost_ret (results_pt rfl _ _ (w.heap.size + 1) D.1.1 D.1.2 D.2 (show Row _ (w.heap.size + 1) #[.int .i64 D.1.1, .int .i64 D.1.2] from (by exact ro)) rfl rfl) rfl ?_
    exact ⟨by rw [HE2.out], (show Chg [] w _ by (repeat' (first | (with_reducible first | exact Chg.refl _ _ | assumption | refine Chg.alloc ?_ _ | refine Chg.drew ?_ | refine Chg.drewN ?_ _ | refine Chg.setCell ?_ ?_ _ | refine Chg.upc ?_ (by assumption) | refine Chg.call ?_ (by assumption) ?_) | (refine Or.inl ?_; (simp; done)) | (simp; done) | (simp; omega) | omega))).up⟩
  next =>
    have HE2 := Lib.hid (show farR fn fm zs = ((0, 0), 18) by rw [HE.out, HF.out]; rfl)
    go_enter Tryd.func28, Tryd.ntmps28
    go_wp2_with (first
      | (go_at_call 53; ((with_reducible refine (sum_calls fn v zs _ (HV.out.up (by exact ua)) hl).mono ?_); rw [HX.out]; rintro E w1 ⟨rfl, hu1⟩; have z1 := hu1.size; (try simp at z1); have RS1 := Row.up (show Row _ w.heap.size #[.int .i64 c.a, .int .i64 c.b, .int .i64 c.c, .int .i64 c.d, .int .i64 c.x, .int .i64 c.y, .int .i64 1, .int .i64 0, .int .i64 0, .int .i64 0, .int .i64 0, .int .i64 wd, .int .i64 0, .int .i64 0, .int .i64 655360, .slice none 0 0, .int .i64 ph, .int .i64 fn, .int .i64 fm.a, .int .i64 fm.b, .int .i64 fm.c, .int .i64 fm.d, .int .i64 fm.x, .int .i64 fm.y, clips, .bool dk] by exact ra) hu1; have RP1 := Row.up (show Row _ (w.heap.size + 1) #[.int .i64 0, .int .i64 0] by exact ra) hu1; have m1_18 : w1.cell? ⟨w.heap.size, 18, none⟩ = some (.int .i64 fm.a) := RS1.cell 18 rfl; have m1_19 : w1.cell? ⟨w.heap.size, 19, none⟩ = some (.int .i64 fm.b) := RS1.cell 19 rfl; have m1_20 : w1.cell? ⟨w.heap.size, 20, none⟩ = some (.int .i64 fm.c) := RS1.cell 20 rfl; have m1_21 : w1.cell? ⟨w.heap.size, 21, none⟩ = some (.int .i64 fm.d) := RS1.cell 21 rfl; have m1_22 : w1.cell? ⟨w.heap.size, 22, none⟩ = some (.int .i64 fm.x) := RS1.cell 22 rfl; have m1_23 : w1.cell? ⟨w.heap.size, 23, none⟩ = some (.int .i64 fm.y) := RS1.cell 23 rfl; have p1_0 : w1.cell? ⟨w.heap.size + 1, 0, none⟩ = some (.int .i64 0) := RP1.cell 0 rfl; have pf1_0 := RP1.free 0; have p1_1 : w1.cell? ⟨w.heap.size + 1, 1, none⟩ = some (.int .i64 0) := RP1.cell 1 rfl; have pf1_1 := RP1.free 1))
      | (go_at_call 54; ((with_reducible refine (Fix.fits_calls _ _).mono ?_); rw [HF.out]; rintro E w2 ⟨rfl, rfl⟩))
      | (go_at_call 55; ((with_reducible refine (Mat.delta_calls fm.a fm.b fm.c fm.d fm.x fm.y _ 0 _).mono ?_); rw [HD.out]; rintro E w3 ⟨rfl, hu3⟩; have z3 := hu3.size; have RP3 := RP1.up hu3; have p3_0 : w3.cell? ⟨w.heap.size + 1, 0, none⟩ = some (.int .i64 0) := RP3.cell 0 rfl; have pf3_0 := RP3.free 0; have p3_1 : w3.cell? ⟨w.heap.size + 1, 1, none⟩ = some (.int .i64 0) := RP3.cell 1 rfl; have pf3_1 := RP3.free 1)))
    (try simp only [Exit.inBlock, Exit.then])
    refine bodyPost_ret (results_pt rfl _ _ (w.heap.size + 1) 0 0 18 (show Row _ (w.heap.size + 1) #[.int .i64 0, .int .i64 0] from (by exact ro)) rfl rfl) rfl ?_
    exact ⟨by rw [HE2.out], (show Chg [] w _ by (repeat' (first | (with_reducible first | exact Chg.refl _ _ | assumption | refine Chg.alloc ?_ _ | refine Chg.drew ?_ | refine Chg.drewN ?_ _ | refine Chg.setCell ?_ ?_ _ | refine Chg.upc ?_ (by assumption) | refine Chg.call ?_ (by assumption) ?_) | (refine Or.inl ?_; (simp; done)) | (simp; done) | (simp; omega) | omega))).up⟩
  next =>
    have HE2 := Lib.hid (show farR fn fm zs = D by rw [HE.out, HF.out]; rfl)
    go_enter Tryd.func28, Tryd.ntmps28
    go_wp2_with (first
      | (go_at_call 53; ((with_reducible refine (sum_calls fn v zs _ (HV.out.up (by exact ua)) hl).mono ?_); rw [HX.out]; rintro E w1 ⟨rfl, hu1⟩; have z1 := hu1.size; (try simp at z1); have RS1 := Row.up (show Row _ w.heap.size #[.int .i64 c.a, .int .i64 c.b, .int .i64 c.c, .int .i64 c.d, .int .i64 c.x, .int .i64 c.y, .int .i64 1, .int .i64 0, .int .i64 0, .int .i64 0, .int .i64 0, .int .i64 wd, .int .i64 0, .int .i64 0, .int .i64 655360, .slice none 0 0, .int .i64 ph, .int .i64 fn, .int .i64 fm.a, .int .i64 fm.b, .int .i64 fm.c, .int .i64 fm.d, .int .i64 fm.x, .int .i64 fm.y, clips, .bool dk] by exact ra) hu1; have RP1 := Row.up (show Row _ (w.heap.size + 1) #[.int .i64 0, .int .i64 0] by exact ra) hu1; have m1_18 : w1.cell? ⟨w.heap.size, 18, none⟩ = some (.int .i64 fm.a) := RS1.cell 18 rfl; have m1_19 : w1.cell? ⟨w.heap.size, 19, none⟩ = some (.int .i64 fm.b) := RS1.cell 19 rfl; have m1_20 : w1.cell? ⟨w.heap.size, 20, none⟩ = some (.int .i64 fm.c) := RS1.cell 20 rfl; have m1_21 : w1.cell? ⟨w.heap.size, 21, none⟩ = some (.int .i64 fm.d) := RS1.cell 21 rfl; have m1_22 : w1.cell? ⟨w.heap.size, 22, none⟩ = some (.int .i64 fm.x) := RS1.cell 22 rfl; have m1_23 : w1.cell? ⟨w.heap.size, 23, none⟩ = some (.int .i64 fm.y) := RS1.cell 23 rfl; have p1_0 : w1.cell? ⟨w.heap.size + 1, 0, none⟩ = some (.int .i64 0) := RP1.cell 0 rfl; have pf1_0 := RP1.free 0; have p1_1 : w1.cell? ⟨w.heap.size + 1, 1, none⟩ = some (.int .i64 0) := RP1.cell 1 rfl; have pf1_1 := RP1.free 1))
      | (go_at_call 54; ((with_reducible refine (Fix.fits_calls _ _).mono ?_); rw [HF.out]; rintro E w2 ⟨rfl, rfl⟩))
      | (go_at_call 55; ((with_reducible refine (Mat.delta_calls fm.a fm.b fm.c fm.d fm.x fm.y _ 0 _).mono ?_); rw [HD.out]; rintro E w3 ⟨rfl, hu3⟩; have z3 := hu3.size; have RP3 := RP1.up hu3; have p3_0 : w3.cell? ⟨w.heap.size + 1, 0, none⟩ = some (.int .i64 0) := RP3.cell 0 rfl; have pf3_0 := RP3.free 0; have p3_1 : w3.cell? ⟨w.heap.size + 1, 1, none⟩ = some (.int .i64 0) := RP3.cell 1 rfl; have pf3_1 := RP3.free 1)))
    (try simp only [Exit.inBlock, Exit.then])
    refine bodyPost_ret (results_pt rfl _ _ (w.heap.size + 1) D.1.1 D.1.2 D.2 (show Row _ (w.heap.size + 1) #[.int .i64 D.1.1, .int .i64 D.1.2] from (by exact ro)) rfl rfl) rfl ?_
    exact ⟨by rw [HE2.out], (show Chg [] w _ by (repeat' (first | (with_reducible first | exact Chg.refl _ _ | assumption | refine Chg.alloc ?_ _ | refine Chg.drew ?_ | refine Chg.drewN ?_ _ | refine Chg.setCell ?_ ?_ _ | refine Chg.upc ?_ (by assumption) | refine Chg.call ?_ (by assumption) ?_) | (refine Or.inl ?_; (simp; done)) | (simp; done) | (simp; omega) | omega))).up⟩

end Go.Proofs.YtjdbefpfjhdmoaaDoor.Sh
end

section
namespace Go.Proofs.YtjdbefpfjhdmoaaDoor.Sh
open Go.Proofs.YtjdbefpfjhdmoaaDoor.ZGJ
open Go.ChangeShapes Go.WideShapes Go.ChangeAt Go.RowKit
open Go.Proofs.YtjdbefpfjhdmoaaDoor.Gs
open Go.Proofs.YtjdbefpfjhdmoaaDoor.FixM (fits)
open Go.Proofs.YtjdbefpfjhdmoaaDoor.MatM (M6 delta)
open Go.Proofs.YtjdbefpfjhdmoaaDoor.FontM Go.Proofs.YtjdbefpfjhdmoaaDoor.Font
set_option linter.unusedVariables false
set_option linter.unusedSimpArgs false

theorem extent_none (v : Value) (w : World) : Calls Tryd.prog 8 #[.pointer none, v] w fun E w' => E = ptE ((0, 0), 21) ∧ Up w w' := by
  go_enter Tryd.func8, Tryd.ntmps8
  go_wp2
  (try simp only [Exit.inBlock, Exit.then])
  refine bodyPost_ret (results_pt rfl _ _ w.heap.size 0 0 21 (show Row _ w.heap.size #[.int .i64 0, .int .i64 0] from (by exact ro)) rfl rfl) rfl ?_
  exact ⟨rfl, (show Chg [] w _ by (repeat' (first | (with_reducible first | exact Chg.refl _ _ | assumption | refine Chg.alloc ?_ _ | refine Chg.drew ?_ | refine Chg.drewN ?_ _ | refine Chg.setCell ?_ ?_ _ | refine Chg.upc ?_ (by assumption) | refine Chg.call ?_ (by assumption) ?_) | (refine Or.inl ?_; (simp; done)) | (simp; done) | (simp; omega) | omega))).up⟩
theorem show_noC (a v : Value) (w : World) : Calls Tryd.prog 11 #[.pointer none, a, v] w fun E w' => E = .returned (.int .i64 21) ∧ Up w w' := by
  go_enter Tryd.func11, Tryd.ntmps11
  go_wp2
  go_ret
  exact ⟨rfl, by exact ua⟩
theorem show_noG (c : Addr) (v : Value) (w : World) : Calls Tryd.prog 11 #[.pointer (some c), .pointer none, v] w fun E w' => E = .returned (.int .i64 21) ∧ Up w w' := by
  go_enter Tryd.func11, Tryd.ntmps11
  go_wp2
  go_ret
  exact ⟨rfl, by exact ua⟩
theorem spaced_noC (a v n : Value) (px py qx qy : Int) (w : World) : Calls Tryd.prog 12 #[.pointer none, a, v, .agg #[.int .i64 px, .int .i64 py], .agg #[.int .i64 qx, .int .i64 qy], n] w fun E w' => E = .returned (.int .i64 21) ∧ Up w w' := by
  go_enter Tryd.func12, Tryd.ntmps12
  go_wp2
  go_ret
  exact ⟨rfl, by exact ua⟩
theorem spaced_noG (c : Addr) (v n : Value) (px py qx qy : Int) (w : World) : Calls Tryd.prog 12 #[.pointer (some c), .pointer none, v, .agg #[.int .i64 px, .int .i64 py], .agg #[.int .i64 qx, .int .i64 qy], n] w fun E w' => E = .returned (.int .i64 21) ∧ Up w w' := by
  go_enter Tryd.func12, Tryd.ntmps12
  go_wp2
  go_ret
  exact ⟨rfl, by exact ua⟩

/-- what Extent answers -/
def extR (fn : Int) (fm : M6) (zs : List Int) : (Int × Int) × Int := if fn < 0 then ((0, 0), 7) else farR fn fm zs
set_option maxRecDepth 8000 in
set_option maxHeartbeats 2000000 in
theorem extent_calls (b : Nat) (c : M6) (wd ph fn : Int) (fm : M6) (dk : Bool) (p : Nat) (most segs : Int) (v : Value) (zs : List Int) (w : World) (h : Row w b (gsC c wd (.slice none 0 0) ph fn fm dk p most segs)) (hv : Ints .u8 w v zs) (hl : zs.length ≤ 100000) :
    Calls Tryd.prog 8 #[.pointer (some ⟨b, 0, none⟩), v] w fun E w' => E = ptE (extR fn fm zs) ∧ Up w w' := by
  have HR := Lib.hid h
  have HV := Lib.hid hv
  clear h hv
  cases hn : decide (fn < 0)
  · obtain ⟨D, hD⟩ : ∃ D, farR fn fm zs = D := ⟨_, rfl⟩
    have HD := Lib.hid hD
    have HE := Lib.hid (show extR fn fm zs = D by unfold extR; rw [if_neg (of_decide_eq_false hn)]; exact hD)
    clear hD
    go_enter Tryd.func8, Tryd.ntmps8
    go_wp2_with (first
      | (go_at_call 27; ((with_reducible refine (now_calls b c wd ph fn fm dk p most segs _ (HR.out.up (by exact ua))).mono ?_); rintro E w1 ⟨⟨gc, hg1, hg2, rfl⟩, hu1⟩; have z1 := hu1.size; (try simp at z1); have RP1 := Row.up (show Row _ w.heap.size #[.int .i64 0, .int .i64 0] by exact ra) hu1; have lp1 := RP1.lt; unfold stC))
      | ((refine wpList_store_Row rfl 74 (.tmp 6) _ rfl (w1.heap.size) #[.int .i64 c.a, .int .i64 c.b, .int .i64 c.c, .int .i64 c.d, .int .i64 c.x, .int .i64 c.y, .int .i64 1, .int .i64 0, .int .i64 0, .int .i64 0, .int .i64 0, .int .i64 wd, .int .i64 0, .int .i64 0, .int .i64 655360, .slice none 0 0, .int .i64 ph, .int .i64 fn, .int .i64 fm.a, .int .i64 fm.b, .int .i64 fm.c, .int .i64 fm.d, .int .i64 fm.x, .int .i64 fm.y, .slice (some ⟨gc, 0, none⟩) 0 0, .bool dk] rfl rfl #[.int .i64 0, .int .i64 0, .int .i64 0, .int .i64 0, .int .i64 0, .int .i64 0, .int .i64 0, .int .i64 0, .int .i64 0, .int .i64 0, .int .i64 0, .int .i64 0, .int .i64 0, .int .i64 0, .int .i64 0, .slice none 0 0, .int .i64 0, .int .i64 0, .int .i64 0, .int .i64 0, .int .i64 0, .int .i64 0, .int .i64 0, .int .i64 0, .slice none 0 0, .bool false] (by exact ra) infoSt rfl rfl (by simp [Value.oneCell']) ?_); intro w2 hr2 hc2; have lh2 := hr2.lt; have m2 : w2.cell? ⟨w1.heap.size, 17, none⟩ = some (.int .i64 fn) := hr2.cell 17 rfl; have RP2 : Row w2 w.heap.size #[.int .i64 0, .int .i64 0] := (by exact ra); have p2_0 : w2.cell? ⟨w.heap.size, 0, none⟩ = some (.int .i64 0) := RP2.cell 0 rfl; have pf2_0 := RP2.free 0; have p2_1 : w2.cell? ⟨w.heap.size, 1, none⟩ = some (.int .i64 0) := RP2.cell 1 rfl; have pf2_1 := RP2.free 1)
      | (refine wpList_load_Row rfl 74 (.tmp 6) rfl (w1.heap.size) rfl #[.int .i64 c.a, .int .i64 c.b, .int .i64 c.c, .int .i64 c.d, .int .i64 c.x, .int .i64 c.y, .int .i64 1, .int .i64 0, .int .i64 0, .int .i64 0, .int .i64 0, .int .i64 wd, .int .i64 0, .int .i64 0, .int .i64 655360, .slice none 0 0, .int .i64 ph, .int .i64 fn, .int .i64 fm.a, .int .i64 fm.b, .int .i64 fm.c, .int .i64 fm.d, .int .i64 fm.x, .int .i64 fm.y, .slice (some ⟨gc, 0, none⟩) 0 0, .bool dk] _ hr2 Tryd.underlying74 rfl infoSt rfl ?_)
      | (go_at_call 28; ((with_reducible refine (far_calls c wd ph fn fm _ dk v zs _ (HV.out.up ((show Chg [] w w2 by (repeat' (first | (with_reducible first | exact Chg.refl _ _ | assumption | refine Chg.alloc ?_ _ | refine Chg.drew ?_ | refine Chg.drewN ?_ _ | refine Chg.setCell ?_ ?_ _ | refine Chg.upc ?_ (by assumption) | refine Chg.call ?_ (by assumption) ?_) | (refine Or.inl ?_; (simp; done)) | (simp; done) | (simp; omega) | omega))).up)) hl).mono ?_); rw [HD.out]; rintro E w3 ⟨rfl, hu3⟩; have z3 := hu3.size; have RP3 := RP2.up hu3; have p3_0 : w3.cell? ⟨w.heap.size, 0, none⟩ = some (.int .i64 0) := RP3.cell 0 rfl; have pf3_0 := RP3.free 0; have p3_1 : w3.cell? ⟨w.heap.size, 1, none⟩ = some (.int .i64 0) := RP3.cell 1 rfl; have pf3_1 := RP3.free 1)))
    (try simp only [Exit.inBlock, Exit.then])
    refine bodyPost_ret (results_pt rfl _ _ w.heap.size D.1.1 D.1.2 D.2 (show Row _ w.heap.size #[.int .i64 D.1.1, .int .i64 D.1.2] from (by exact ro)) rfl rfl) rfl ?_
    exact ⟨by rw [HE.out], (show Chg [] w _ by (repeat' (first | (with_reducible first | exact Chg.refl _ _ | assumption | refine Chg.alloc ?_ _ | refine Chg.drew ?_ | refine Chg.drewN ?_ _ | refine Chg.setCell ?_ ?_ _ | refine Chg.upc ?_ (by assumption) | refine Chg.call ?_ (by assumption) ?_) | (refine Or.inl ?_; (simp; done)) | (simp; done) | (simp; omega) | omega))).up⟩
  · have HE := Lib.hid (show extR fn fm zs = ((0, 0), 7) by unfold extR; rw [if_pos (of_decide_eq_true hn)])
    go_enter Tryd.func8, Tryd.ntmps8
    go_wp2_with (first
      | (go_at_call 27; ((with_reducible refine (now_calls b c wd ph fn fm dk p most segs _ (HR.out.up (by exact ua))).mono ?_); rintro E w1 ⟨⟨gc, hg1, hg2, rfl⟩, hu1⟩; have z1 := hu1.size; (try simp at z1); have RP1 := Row.up (show Row _ w.heap.size #[.int .i64 0, .int .i64 0] by exact ra) hu1; have lp1 := RP1.lt; unfold stC))
      | ((refine wpList_store_Row rfl 74 (.tmp 6) _ rfl (w1.heap.size) #[.int .i64 c.a, .int .i64 c.b, .int .i64 c.c, .int .i64 c.d, .int .i64 c.x, .int .i64 c.y, .int .i64 1, .int .i64 0, .int .i64 0, .int .i64 0, .int .i64 0, .int .i64 wd, .int .i64 0, .int .i64 0, .int .i64 655360, .slice none 0 0, .int .i64 ph, .int .i64 fn, .int .i64 fm.a, .int .i64 fm.b, .int .i64 fm.c, .int .i64 fm.d, .int .i64 fm.x, .int .i64 fm.y, .slice (some ⟨gc, 0, none⟩) 0 0, .bool dk] rfl rfl #[.int .i64 0, .int .i64 0, .int .i64 0, .int .i64 0, .int .i64 0, .int .i64 0, .int .i64 0, .int .i64 0, .int .i64 0, .int .i64 0, .int .i64 0, .int .i64 0, .int .i64 0, .int .i64 0, .int .i64 0, .slice none 0 0, .int .i64 0, .int .i64 0, .int .i64 0, .int .i64 0, .int .i64 0, .int .i64 0, .int .i64 0, .int .i64 0, .slice none 0 0, .bool false] (by exact ra) infoSt rfl rfl (by simp [Value.oneCell']) ?_); intro w2 hr2 hc2; have lh2 := hr2.lt; have m2 : w2.cell? ⟨w1.heap.size, 17, none⟩ = some (.int .i64 fn) := hr2.cell 17 rfl; have RP2 : Row w2 w.heap.size #[.int .i64 0, .int .i64 0] := (by exact ra); have p2_0 : w2.cell? ⟨w.heap.size, 0, none⟩ = some (.int .i64 0) := RP2.cell 0 rfl; have pf2_0 := RP2.free 0; have p2_1 : w2.cell? ⟨w.heap.size, 1, none⟩ = some (.int .i64 0) := RP2.cell 1 rfl; have pf2_1 := RP2.free 1))
    (try simp only [Exit.inBlock, Exit.then])
    refine bodyPost_ret (results_pt rfl _ _ w.heap.size 0 0 7 (show Row _ w.heap.size #[.int .i64 0, .int .i64 0] from (by exact ro)) rfl rfl) rfl ?_
    exact ⟨by rw [HE.out], (show Chg [] w _ by (repeat' (first | (with_reducible first | exact Chg.refl _ _ | assumption | refine Chg.alloc ?_ _ | refine Chg.drew ?_ | refine Chg.drewN ?_ _ | refine Chg.setCell ?_ ?_ _ | refine Chg.upc ?_ (by assumption) | refine Chg.call ?_ (by assumption) ?_) | (refine Or.inl ?_; (simp; done)) | (simp; done) | (simp; omega) | omega))).up⟩


theorem ints1 {w : World} {b : Nat} {n : Int} (hb : b < w.heap.size) (hc : w.cell? ⟨b, 0, none⟩ = some (.int .u8 n)) (hw : (Lit.int .u8 n).wf = true) : Ints .u8 w (.slice (some ⟨b, 0, none⟩) 1 1) [n] := by
  refine ⟨_, 1, rfl, Nat.le_refl 1, by decide, (fun h => by cases h), fun _ => ⟨b, 0, rfl, hb, fun i hi => ?_⟩, ?_⟩
  · obtain rfl : i = 0 := by simp at hi; omega
    exact hc
  · intro z hz
    simp at hz
    subst hz
    exact hw
theorem marked_cell (w : World) (v : Value) (t : TypeId) (fr : Nat × Nat) : (w.alloc (.cells #[v] t fr)).cell? ⟨w.heap.size, 0, none⟩ = some v := by
  have h : (w.alloc (.cells #[v] t fr)).heap[w.heap.size]? = some (.cells #[v] t fr) := by
    show (w.heap.push (.cells #[v] t fr))[w.heap.size]? = _
    simp
  unfold World.cell?
  rw [h]
  rfl
theorem setFont_one (b : Nat) (p : Nat) (w : World) (h : Row w b (gsC idM 65536 (.slice none 0 0) 0 (-1) idM false p 2 5)) (hT : Font.Tab w) :
    Calls Tryd.prog 19 #[.pointer (some ⟨b, 0, none⟩), .int .i64 0, .agg #[.int .i64 65536, .int .i64 0, .int .i64 0, .int .i64 65536, .int .i64 0, .int .i64 0]] w fun E w' => E = .returned (.int .i64 0) ∧ Row w' b (gsC idM 65536 (.slice none 0 0) 0 0 idM false p 2 5) ∧ Chg [b] w w' := by
  have e : sfE 0 idM = 0 := by decide +kernel
  have h2 := setFont_calls b idM 65536 0 (-1) (.slice none 0 0) idM false p 2 5 0 idM w h hT
  rw [e] at h2
  exact h2
theorem answer_far : extR 0 idM [97] = ((39322, 0), 0) := by decide +kernel
set_option maxRecDepth 8000 in
set_option maxHeartbeats 1000000 in
theorem answers_calls (w : World) (hT : Font.Tab w) : Calls Tryd.prog 6 #[] w fun E w' => E = .returned (.bool true) ∧ Up w w' := by
  have HT := Lib.hid hT
  clear hT
  have hcv := fun (w : World) (C : Array Value) (n c : Nat) => Lib.run_convert_bytes_const (P := Tryd.prog) w 27 5 C n c Tryd.underlying27 Tryd.underlying5
  go_enter Tryd.func6, Tryd.ntmps6
  go_wp2_with (first
    | (go_at_call 18; ((with_reducible refine (gnew_calls 2 5 _).mono ?_); rintro E w1 ⟨b, p, rfl, hb, hp, hpb, hr1, hq1, hu1⟩; have R1 := Lib.hid hr1; have C1 : Chg [] w w1 := Chg.of_up hu1; clear hr1 hq1))
    | (go_at_call 19; ((with_reducible refine (setFont_one b p _ R1.out (HT.out.up hu1)).mono ?_); rintro E w2 ⟨rfl, hr2, hc2⟩; have R2 := Lib.hid (show Row w2 b (gsC idM 65536 (.slice none 0 0) 0 0 idM false p 2 5) from hr2); have C2 : Chg [] w w2 := C1.call hc2 (fun x hx => by simp at hx; subst hx; exact Or.inr hb); clear hr2))
    | (go_at_call 8; ((with_reducible refine (extent_calls b _ _ _ _ _ _ p _ _ _ [97] _ (show Row _ b (gsC idM 65536 (.slice none 0 0) 0 0 idM false p 2 5) from R2.out.alloc _) (ints1 (by simp) (marked_cell _ _ _ _) (by decide)) (by decide)).mono ?_); rw [answer_far]; rintro E w3 ⟨rfl, hu3⟩)))
  go_ret
  exact ⟨rfl, (((C2.alloc _).upc hu3).alloc _).up⟩

end Go.Proofs.YtjdbefpfjhdmoaaDoor.Sh
end
