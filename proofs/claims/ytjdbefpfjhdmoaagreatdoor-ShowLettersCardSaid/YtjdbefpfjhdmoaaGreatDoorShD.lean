/- Extent; law 16's answers; what show says without a canvas or states. Its condition, of answers: the fonts' names lie as they are laid. -/
import Derived.Test.YtjdbefpfjhdmoaaGreatDoorShC
import Derived.Lib.SlBytesConst
namespace Go.Proofs.YtjdbefpfjhdmoaaGreatDoor.Sh
open Go.ChangeShapes Go.WideShapes Go.ChangeAt Go.RowKit
open Go.Proofs.YtjdbefpfjhdmoaaGreatDoor.Gs
open Go.Proofs.YtjdbefpfjhdmoaaGreatDoor.FixM (fits)
open Go.Proofs.YtjdbefpfjhdmoaaGreatDoor.MatM (M6 delta)
open Go.Proofs.YtjdbefpfjhdmoaaGreatDoor.FontM Go.Proofs.YtjdbefpfjhdmoaaGreatDoor.Font
set_option linter.unusedVariables false
set_option linter.unusedSimpArgs false

theorem extent_none (v : Value) (w : World) : Calls Tryz.prog 14 #[.pointer none, v] w fun E w' => E = ptE ((0, 0), 21) ∧ Up w w' := by
  go_enter Tryz.func14, Tryz.ntmps14
  go_wp2
  (try simp only [Exit.inBlock, Exit.then])
  refine bodyPost_ret (results_pt rfl _ _ w.heap.size 0 0 21 (show Row _ w.heap.size #[.int .i64 0, .int .i64 0] from (by apply cast; (case h => (repeat (first | (with_reducible assumption) | (with_reducible apply Row.at; (simp; done)) | (with_reducible apply Row.alloc) | (with_reducible apply Row.drew) | (with_reducible apply Row.drewN) | (with_reducible apply Row.set) | ((with_reducible apply Row.other); (case hp => first | (simp; done) | (simp; omega) | omega))))); (case e => rfl))) rfl rfl) rfl ?_
  exact ⟨rfl, (show Chg [] w _ by (repeat' (first | (with_reducible exact Chg.refl _ _) | (with_reducible assumption) | (with_reducible refine Chg.alloc ?_ _) | (with_reducible refine Chg.drew ?_) | (with_reducible refine Chg.drewN ?_ _) | (with_reducible refine Chg.setCell ?_ ?_ _) | (with_reducible refine Chg.upc ?_ (by with_reducible assumption)) | (with_reducible refine Chg.call ?_ (by with_reducible assumption) ?_) | (refine Or.inl ?_; (simp; done)) | (simp; done) | (simp; omega) | omega))).up⟩
theorem show_noC (a v : Value) (w : World) : Calls Tryz.prog 7 #[.pointer none, a, v] w fun E w' => E = .returned (.int .i64 21) ∧ Up w w' := by
  go_enter Tryz.func7, Tryz.ntmps7
  go_wp2
  go_ret
  exact ⟨rfl, by (repeat' (first | (with_reducible exact Up.refl _) | (with_reducible assumption) | (with_reducible refine Up.alloc ?_ _) | (with_reducible refine Up.drew ?_) | (with_reducible refine Up.drewN ?_ _) | (with_reducible refine Up.setCell ?_ ?_ _) | (with_reducible refine Up.call ?_ (by with_reducible assumption)) | go_size))⟩
theorem show_noG (c : Addr) (v : Value) (w : World) : Calls Tryz.prog 7 #[.pointer (some c), .pointer none, v] w fun E w' => E = .returned (.int .i64 21) ∧ Up w w' := by
  go_enter Tryz.func7, Tryz.ntmps7
  go_wp2
  go_ret
  exact ⟨rfl, by (repeat' (first | (with_reducible exact Up.refl _) | (with_reducible assumption) | (with_reducible refine Up.alloc ?_ _) | (with_reducible refine Up.drew ?_) | (with_reducible refine Up.drewN ?_ _) | (with_reducible refine Up.setCell ?_ ?_ _) | (with_reducible refine Up.call ?_ (by with_reducible assumption)) | go_size))⟩
theorem spaced_noC (a v n : Value) (px py qx qy : Int) (w : World) : Calls Tryz.prog 10 #[.pointer none, a, v, .agg #[.int .i64 px, .int .i64 py], .agg #[.int .i64 qx, .int .i64 qy], n] w fun E w' => E = .returned (.int .i64 21) ∧ Up w w' := by
  go_enter Tryz.func10, Tryz.ntmps10
  go_wp2
  go_ret
  exact ⟨rfl, by (repeat' (first | (with_reducible exact Up.refl _) | (with_reducible assumption) | (with_reducible refine Up.alloc ?_ _) | (with_reducible refine Up.drew ?_) | (with_reducible refine Up.drewN ?_ _) | (with_reducible refine Up.setCell ?_ ?_ _) | (with_reducible refine Up.call ?_ (by with_reducible assumption)) | go_size))⟩
theorem spaced_noG (c : Addr) (v n : Value) (px py qx qy : Int) (w : World) : Calls Tryz.prog 10 #[.pointer (some c), .pointer none, v, .agg #[.int .i64 px, .int .i64 py], .agg #[.int .i64 qx, .int .i64 qy], n] w fun E w' => E = .returned (.int .i64 21) ∧ Up w w' := by
  go_enter Tryz.func10, Tryz.ntmps10
  go_wp2
  go_ret
  exact ⟨rfl, by (repeat' (first | (with_reducible exact Up.refl _) | (with_reducible assumption) | (with_reducible refine Up.alloc ?_ _) | (with_reducible refine Up.drew ?_) | (with_reducible refine Up.drewN ?_ _) | (with_reducible refine Up.setCell ?_ ?_ _) | (with_reducible refine Up.call ?_ (by with_reducible assumption)) | go_size))⟩

/-- what Extent answers -/
def extR (fn : Int) (fm : M6) (zs : List Int) : (Int × Int) × Int := if fn < 0 then ((0, 0), 7) else farR fn fm zs
set_option maxRecDepth 8000 in
set_option maxHeartbeats 2000000 in
theorem extent_calls (b : Nat) (c : M6) (wd ph fn : Int) (fm : M6) (dk : Bool) (p : Nat) (most segs : Int) (v : Value) (zs : List Int) (w : World) (h : Row w b (gsC c wd (.slice none 0 0) ph fn fm dk p most segs)) (hv : Ints .u8 w v zs) (hl : zs.length ≤ 100000) :
    Calls Tryz.prog 14 #[.pointer (some ⟨b, 0, none⟩), v] w fun E w' => E = ptE (extR fn fm zs) ∧ Up w w' := by
  have HR := Lib.hid h
  have HV := Lib.hid hv
  clear h hv
  cases hn : decide (fn < 0)
  · obtain ⟨D, hD⟩ : ∃ D, farR fn fm zs = D := ⟨_, rfl⟩
    have HD := Lib.hid hD
    have HE := Lib.hid (show extR fn fm zs = D by unfold extR; rw [if_neg (of_decide_eq_false hn)]; exact hD)
    clear hD
    go_enter Tryz.func14, Tryz.ntmps14
    go_wp2_with (first
      | (go_at_call 44; ((with_reducible refine (now_calls b c wd ph fn fm dk p most segs _ (HR.out.up (by (repeat' (first | (with_reducible exact Up.refl _) | (with_reducible assumption) | (with_reducible refine Up.alloc ?_ _) | (with_reducible refine Up.drew ?_) | (with_reducible refine Up.drewN ?_ _) | (with_reducible refine Up.setCell ?_ ?_ _) | (with_reducible refine Up.call ?_ (by with_reducible assumption)) | go_size))))).mono ?_); rintro E w1 ⟨⟨gc, hg1, hg2, rfl⟩, hu1⟩; have z1 := hu1.size; (try simp at z1); have RP1 := Row.up (show Row _ w.heap.size #[.int .i64 0, .int .i64 0] by (repeat' (first | (with_reducible assumption) | (with_reducible refine Row.at _ _ ?_; (simp; done)) | (with_reducible refine Row.alloc ?_ _) | (with_reducible refine Row.drew ?_) | (with_reducible refine Row.drewN ?_ _) | (with_reducible refine Row.other ?_ (by first | (simp; done) | (simp; omega) | omega) _) | (with_reducible refine Row.up ?_ (by with_reducible assumption)) | (with_reducible refine Row.chg ?_ (by with_reducible assumption) (by first | (simp; done) | (simp; omega)))))) hu1; have lp1 := RP1.lt; unfold stC))
      | ((refine wpList_store_Row rfl 73 (.tmp 6) _ rfl (w1.heap.size) #[.int .i64 c.a, .int .i64 c.b, .int .i64 c.c, .int .i64 c.d, .int .i64 c.x, .int .i64 c.y, .int .i64 1, .int .i64 0, .int .i64 0, .int .i64 0, .int .i64 0, .int .i64 wd, .int .i64 0, .int .i64 0, .int .i64 655360, .slice none 0 0, .int .i64 ph, .int .i64 fn, .int .i64 fm.a, .int .i64 fm.b, .int .i64 fm.c, .int .i64 fm.d, .int .i64 fm.x, .int .i64 fm.y, .slice (some ⟨gc, 0, none⟩) 0 0, .bool dk] rfl rfl #[.int .i64 0, .int .i64 0, .int .i64 0, .int .i64 0, .int .i64 0, .int .i64 0, .int .i64 0, .int .i64 0, .int .i64 0, .int .i64 0, .int .i64 0, .int .i64 0, .int .i64 0, .int .i64 0, .int .i64 0, .slice none 0 0, .int .i64 0, .int .i64 0, .int .i64 0, .int .i64 0, .int .i64 0, .int .i64 0, .int .i64 0, .int .i64 0, .slice none 0 0, .bool false] (by (repeat' (first | (with_reducible assumption) | (with_reducible refine Row.at _ _ ?_; (simp; done)) | (with_reducible refine Row.alloc ?_ _) | (with_reducible refine Row.drew ?_) | (with_reducible refine Row.drewN ?_ _) | (with_reducible refine Row.other ?_ (by first | (simp; done) | (simp; omega) | omega) _) | (with_reducible refine Row.up ?_ (by with_reducible assumption)) | (with_reducible refine Row.chg ?_ (by with_reducible assumption) (by first | (simp; done) | (simp; omega)))))) infoSt rfl rfl (by simp [Value.oneCell']) ?_); intro w2 hr2 hc2; have lh2 := hr2.lt; have m2 : w2.cell? ⟨w1.heap.size, 17, none⟩ = some (.int .i64 fn) := hr2.cell 17 rfl; have RP2 : Row w2 w.heap.size #[.int .i64 0, .int .i64 0] := (by (repeat' (first | (with_reducible assumption) | (with_reducible refine Row.at _ _ ?_; (simp; done)) | (with_reducible refine Row.alloc ?_ _) | (with_reducible refine Row.drew ?_) | (with_reducible refine Row.drewN ?_ _) | (with_reducible refine Row.other ?_ (by first | (simp; done) | (simp; omega) | omega) _) | (with_reducible refine Row.up ?_ (by with_reducible assumption)) | (with_reducible refine Row.chg ?_ (by with_reducible assumption) (by first | (simp; done) | (simp; omega)))))); have p2_0 : w2.cell? ⟨w.heap.size, 0, none⟩ = some (.int .i64 0) := RP2.cell 0 rfl; have pf2_0 := RP2.free 0; have p2_1 : w2.cell? ⟨w.heap.size, 1, none⟩ = some (.int .i64 0) := RP2.cell 1 rfl; have pf2_1 := RP2.free 1)
      | (refine wpList_load_Row rfl 73 (.tmp 6) rfl (w1.heap.size) rfl #[.int .i64 c.a, .int .i64 c.b, .int .i64 c.c, .int .i64 c.d, .int .i64 c.x, .int .i64 c.y, .int .i64 1, .int .i64 0, .int .i64 0, .int .i64 0, .int .i64 0, .int .i64 wd, .int .i64 0, .int .i64 0, .int .i64 655360, .slice none 0 0, .int .i64 ph, .int .i64 fn, .int .i64 fm.a, .int .i64 fm.b, .int .i64 fm.c, .int .i64 fm.d, .int .i64 fm.x, .int .i64 fm.y, .slice (some ⟨gc, 0, none⟩) 0 0, .bool dk] _ hr2 Tryz.underlying73 rfl infoSt rfl ?_)
      | (go_at_call 24; ((with_reducible refine (far_calls c wd ph fn fm _ dk v zs _ (HV.out.up ((show Chg [] w w2 by (repeat' (first | (with_reducible exact Chg.refl _ _) | (with_reducible assumption) | (with_reducible refine Chg.alloc ?_ _) | (with_reducible refine Chg.drew ?_) | (with_reducible refine Chg.drewN ?_ _) | (with_reducible refine Chg.setCell ?_ ?_ _) | (with_reducible refine Chg.upc ?_ (by with_reducible assumption)) | (with_reducible refine Chg.call ?_ (by with_reducible assumption) ?_) | (refine Or.inl ?_; (simp; done)) | (simp; done) | (simp; omega) | omega))).up)) hl).mono ?_); rw [HD.out]; rintro E w3 ⟨rfl, hu3⟩; have z3 := hu3.size; have RP3 := RP2.up hu3; have p3_0 : w3.cell? ⟨w.heap.size, 0, none⟩ = some (.int .i64 0) := RP3.cell 0 rfl; have pf3_0 := RP3.free 0; have p3_1 : w3.cell? ⟨w.heap.size, 1, none⟩ = some (.int .i64 0) := RP3.cell 1 rfl; have pf3_1 := RP3.free 1)))
    (try simp only [Exit.inBlock, Exit.then])
    refine bodyPost_ret (results_pt rfl _ _ w.heap.size D.1.1 D.1.2 D.2 (show Row _ w.heap.size #[.int .i64 D.1.1, .int .i64 D.1.2] from (by apply cast; (case h => (repeat (first | (with_reducible assumption) | (with_reducible apply Row.at; (simp; done)) | (with_reducible apply Row.alloc) | (with_reducible apply Row.drew) | (with_reducible apply Row.drewN) | (with_reducible apply Row.set) | ((with_reducible apply Row.other); (case hp => first | (simp; done) | (simp; omega) | omega))))); (case e => rfl))) rfl rfl) rfl ?_
    exact ⟨by rw [HE.out], (show Chg [] w _ by (repeat' (first | (with_reducible exact Chg.refl _ _) | (with_reducible assumption) | (with_reducible refine Chg.alloc ?_ _) | (with_reducible refine Chg.drew ?_) | (with_reducible refine Chg.drewN ?_ _) | (with_reducible refine Chg.setCell ?_ ?_ _) | (with_reducible refine Chg.upc ?_ (by with_reducible assumption)) | (with_reducible refine Chg.call ?_ (by with_reducible assumption) ?_) | (refine Or.inl ?_; (simp; done)) | (simp; done) | (simp; omega) | omega))).up⟩
  · have HE := Lib.hid (show extR fn fm zs = ((0, 0), 7) by unfold extR; rw [if_pos (of_decide_eq_true hn)])
    go_enter Tryz.func14, Tryz.ntmps14
    go_wp2_with (first
      | (go_at_call 44; ((with_reducible refine (now_calls b c wd ph fn fm dk p most segs _ (HR.out.up (by (repeat' (first | (with_reducible exact Up.refl _) | (with_reducible assumption) | (with_reducible refine Up.alloc ?_ _) | (with_reducible refine Up.drew ?_) | (with_reducible refine Up.drewN ?_ _) | (with_reducible refine Up.setCell ?_ ?_ _) | (with_reducible refine Up.call ?_ (by with_reducible assumption)) | go_size))))).mono ?_); rintro E w1 ⟨⟨gc, hg1, hg2, rfl⟩, hu1⟩; have z1 := hu1.size; (try simp at z1); have RP1 := Row.up (show Row _ w.heap.size #[.int .i64 0, .int .i64 0] by (repeat' (first | (with_reducible assumption) | (with_reducible refine Row.at _ _ ?_; (simp; done)) | (with_reducible refine Row.alloc ?_ _) | (with_reducible refine Row.drew ?_) | (with_reducible refine Row.drewN ?_ _) | (with_reducible refine Row.other ?_ (by first | (simp; done) | (simp; omega) | omega) _) | (with_reducible refine Row.up ?_ (by with_reducible assumption)) | (with_reducible refine Row.chg ?_ (by with_reducible assumption) (by first | (simp; done) | (simp; omega)))))) hu1; have lp1 := RP1.lt; unfold stC))
      | ((refine wpList_store_Row rfl 73 (.tmp 6) _ rfl (w1.heap.size) #[.int .i64 c.a, .int .i64 c.b, .int .i64 c.c, .int .i64 c.d, .int .i64 c.x, .int .i64 c.y, .int .i64 1, .int .i64 0, .int .i64 0, .int .i64 0, .int .i64 0, .int .i64 wd, .int .i64 0, .int .i64 0, .int .i64 655360, .slice none 0 0, .int .i64 ph, .int .i64 fn, .int .i64 fm.a, .int .i64 fm.b, .int .i64 fm.c, .int .i64 fm.d, .int .i64 fm.x, .int .i64 fm.y, .slice (some ⟨gc, 0, none⟩) 0 0, .bool dk] rfl rfl #[.int .i64 0, .int .i64 0, .int .i64 0, .int .i64 0, .int .i64 0, .int .i64 0, .int .i64 0, .int .i64 0, .int .i64 0, .int .i64 0, .int .i64 0, .int .i64 0, .int .i64 0, .int .i64 0, .int .i64 0, .slice none 0 0, .int .i64 0, .int .i64 0, .int .i64 0, .int .i64 0, .int .i64 0, .int .i64 0, .int .i64 0, .int .i64 0, .slice none 0 0, .bool false] (by (repeat' (first | (with_reducible assumption) | (with_reducible refine Row.at _ _ ?_; (simp; done)) | (with_reducible refine Row.alloc ?_ _) | (with_reducible refine Row.drew ?_) | (with_reducible refine Row.drewN ?_ _) | (with_reducible refine Row.other ?_ (by first | (simp; done) | (simp; omega) | omega) _) | (with_reducible refine Row.up ?_ (by with_reducible assumption)) | (with_reducible refine Row.chg ?_ (by with_reducible assumption) (by first | (simp; done) | (simp; omega)))))) infoSt rfl rfl (by simp [Value.oneCell']) ?_); intro w2 hr2 hc2; have lh2 := hr2.lt; have m2 : w2.cell? ⟨w1.heap.size, 17, none⟩ = some (.int .i64 fn) := hr2.cell 17 rfl; have RP2 : Row w2 w.heap.size #[.int .i64 0, .int .i64 0] := (by (repeat' (first | (with_reducible assumption) | (with_reducible refine Row.at _ _ ?_; (simp; done)) | (with_reducible refine Row.alloc ?_ _) | (with_reducible refine Row.drew ?_) | (with_reducible refine Row.drewN ?_ _) | (with_reducible refine Row.other ?_ (by first | (simp; done) | (simp; omega) | omega) _) | (with_reducible refine Row.up ?_ (by with_reducible assumption)) | (with_reducible refine Row.chg ?_ (by with_reducible assumption) (by first | (simp; done) | (simp; omega)))))); have p2_0 : w2.cell? ⟨w.heap.size, 0, none⟩ = some (.int .i64 0) := RP2.cell 0 rfl; have pf2_0 := RP2.free 0; have p2_1 : w2.cell? ⟨w.heap.size, 1, none⟩ = some (.int .i64 0) := RP2.cell 1 rfl; have pf2_1 := RP2.free 1))
    (try simp only [Exit.inBlock, Exit.then])
    refine bodyPost_ret (results_pt rfl _ _ w.heap.size 0 0 7 (show Row _ w.heap.size #[.int .i64 0, .int .i64 0] from (by apply cast; (case h => (repeat (first | (with_reducible assumption) | (with_reducible apply Row.at; (simp; done)) | (with_reducible apply Row.alloc) | (with_reducible apply Row.drew) | (with_reducible apply Row.drewN) | (with_reducible apply Row.set) | ((with_reducible apply Row.other); (case hp => first | (simp; done) | (simp; omega) | omega))))); (case e => rfl))) rfl rfl) rfl ?_
    exact ⟨by rw [HE.out], (show Chg [] w _ by (repeat' (first | (with_reducible exact Chg.refl _ _) | (with_reducible assumption) | (with_reducible refine Chg.alloc ?_ _) | (with_reducible refine Chg.drew ?_) | (with_reducible refine Chg.drewN ?_ _) | (with_reducible refine Chg.setCell ?_ ?_ _) | (with_reducible refine Chg.upc ?_ (by with_reducible assumption)) | (with_reducible refine Chg.call ?_ (by with_reducible assumption) ?_) | (refine Or.inl ?_; (simp; done)) | (simp; done) | (simp; omega) | omega))).up⟩


theorem ints1 {w : World} {b : Nat} {n : Int} (hb : b < w.heap.size) (hc : w.cell? ⟨b, 0, none⟩ = some (.int .u8 n)) (hw : (Lit.int .u8 n).wf = true) : Ints .u8 w (.slice (some ⟨b, 0, none⟩) 1 1) [n] := by
  refine ⟨_, 1, rfl, Nat.le_refl 1, by decide, (fun h => by cases h), fun _ => ⟨b, 0, rfl, hb, fun i hi => ?_⟩, ?_⟩
  · obtain rfl : i = 0 := by simp at hi; omega
    exact hc
  · intro z hz
    simp at hz
    subst hz
    exact hw
theorem marked_cell (w : World) (v : Value) (t : TypeId) (fr : Nat × Nat) : (w.alloc (.cells #[v] t fr)).cell? ⟨w.heap.size, 0, none⟩ = some v := by
  have h : (w.alloc (.cells #[v] t fr)).heap[w.heap.size]? = some (.cells #[v] t fr) := by
    show (w.heap.push (.cells #[v] t fr))[w.heap.size]? = _
    simp
  unfold World.cell?
  rw [h]
  rfl
theorem setFont_one (b : Nat) (p : Nat) (w : World) (h : Row w b (gsC idM 65536 (.slice none 0 0) 0 (-1) idM false p 2 5)) (hT : Font.Tab w) :
    Calls Tryz.prog 13 #[.pointer (some ⟨b, 0, none⟩), .int .i64 0, .agg #[.int .i64 65536, .int .i64 0, .int .i64 0, .int .i64 65536, .int .i64 0, .int .i64 0]] w fun E w' => E = .returned (.int .i64 0) ∧ Row w' b (gsC idM 65536 (.slice none 0 0) 0 0 idM false p 2 5) ∧ Chg [b] w w' := by
  have e : sfE 0 idM = 0 := by decide +kernel
  have h2 := setFont_calls b idM 65536 0 (-1) (.slice none 0 0) idM false p 2 5 0 idM w h hT
  rw [e] at h2
  exact h2
theorem answer_far : extR 0 idM [97] = ((39322, 0), 0) := by decide +kernel
set_option maxRecDepth 8000 in
set_option maxHeartbeats 1000000 in
theorem answers_calls (w : World) (hT : Font.Tab w) : Calls Tryz.prog 5 #[] w fun E w' => E = .returned (.bool true) ∧ Up w w' := by
  have HT := Lib.hid hT
  clear hT
  have hcv := fun (w : World) (C : Array Value) (n c : Nat) => Lib.run_convert_bytes_const (P := Tryz.prog) w 27 5 C n c Tryz.underlying27 Tryz.underlying5
  go_enter Tryz.func5, Tryz.ntmps5
  go_wp2_with (first
    | (go_at_call 12; ((with_reducible refine (gnew_calls 2 5 _).mono ?_); rintro E w1 ⟨b, p, rfl, hb, hp, hpb, hr1, hq1, hu1⟩; have R1 := Lib.hid hr1; have C1 : Chg [] w w1 := Chg.of_up hu1; clear hr1 hq1))
    | (go_at_call 13; ((with_reducible refine (setFont_one b p _ R1.out (HT.out.up hu1)).mono ?_); rintro E w2 ⟨rfl, hr2, hc2⟩; have R2 := Lib.hid (show Row w2 b (gsC idM 65536 (.slice none 0 0) 0 0 idM false p 2 5) from hr2); have C2 : Chg [] w w2 := C1.call hc2 (fun x hx => by simp at hx; subst hx; exact Or.inr hb); clear hr2))
    | (go_at_call 14; ((with_reducible refine (extent_calls b _ _ _ _ _ _ p _ _ _ [97] _ (show Row _ b (gsC idM 65536 (.slice none 0 0) 0 0 idM false p 2 5) from R2.out.alloc _) (ints1 (by simp) (marked_cell _ _ _ _) (by decide)) (by decide)).mono ?_); rw [answer_far]; rintro E w3 ⟨rfl, hu3⟩)))
  go_ret
  exact ⟨rfl, (((C2.alloc _).upc hu3).alloc _).up⟩

end Go.Proofs.YtjdbefpfjhdmoaaGreatDoor.Sh