/- show.Show at a place. Its conditions: the fonts' names lie as they are laid; a length that a string has; room on the page. -/
import Derived.Test.YtjdbefpfjhdmoaaDoorGB
namespace Go.Proofs.YtjdbefpfjhdmoaaDoor.ZGShT2
open Go.ChangeShapes Go.WideShapes Go.ChangeAt Go.RowKit
theorem ra {w : World} {b : Nat} {cs : Array Value} (h : Row w b cs := by (repeat' (with_reducible first | assumption | (refine Row.at _ _ ?_; (simp; done)) | refine Row.alloc ?_ _ | refine Row.drew ?_ | refine Row.drewN ?_ _ | refine Row.other ?_ (by first | (simp; done) | (simp; omega) | omega) _ | refine Row.up ?_ (by assumption) | refine Row.chg ?_ (by assumption) (by first | (simp; done) | (simp; omega))))) : Row w b cs := h
theorem ua {w v : World} (h : Up w v := by (repeat' (first | (with_reducible first | exact Up.refl _ | assumption | refine Up.alloc ?_ _ | refine Up.drew ?_ | refine Up.drewN ?_ _ | refine Up.setCell ?_ ?_ _ | refine Up.call ?_ (by assumption)) | go_size))) : Up w v := h
theorem ro {w : World} {b : Nat} {cs : Array Value} (h : Row w b cs := by apply cast; (case h => (repeat (first | (with_reducible first | assumption | (apply Row.at; (simp; done)) | apply Row.alloc | apply Row.drew | apply Row.drewN | apply Row.set) | ((with_reducible apply Row.other); (case hp => first | (simp; done) | (simp; omega) | omega))))); (case e => rfl)) : Row w b cs := h
end Go.Proofs.YtjdbefpfjhdmoaaDoor.ZGShT2
namespace Go.Proofs.YtjdbefpfjhdmoaaDoor.Sh
open List renaming getElem_toArray → lga, getElem_cons_zero → lgz, getElem_cons_succ → lgs, setIfInBounds_toArray → lsa, set_cons_zero → lsz, set_cons_succ → lss
open Go.Proofs.YtjdbefpfjhdmoaaDoor.ZGShT2
open Go.ChangeShapes Go.WideShapes Go.ChangeAt Go.RowKit
open Go.Proofs.YtjdbefpfjhdmoaaDoor.Gs
open Go.Proofs.YtjdbefpfjhdmoaaDoor.FixM (fits)
open Go.Proofs.YtjdbefpfjhdmoaaDoor.MatM (M6 concat)
open Go.Proofs.YtjdbefpfjhdmoaaDoor.PathM
set_option linter.unusedVariables false
set_option linter.unusedSimpArgs false


set_option maxRecDepth 8000 in
set_option maxHeartbeats 4000000 in
theorem show_dark (g p c : Nat) (C : M6) (F : Int) (FM : M6) (dk : Bool) (n : Int) (pv v : Value) (T : St) (l : List Cl) (x y : Int) (ba : Option Addr) (bc N : Nat) (bs : List Int) (w : World) (h : Prg w g p c C F FM dk n pv v T l)
    (hN : bs.length = N) (hv : Ints .u8 w (.slice ba N bc) bs) (hl : N ≤ 65535) (hR : placeR F T = ((x, y), 0)) (bx bz tx tz : Int) (hB : farR F FM bs = ((bx, bz), 0)) (hM : movedR C x y bx bz = ((tx, tz), 0)) (hLK : lastK T.l = 1) (hTM : (T.move (tx, tz)).2 = 0) (h0 : 0 < N) (hd : dk = true) :
    Calls Tryd.prog 11 #[.pointer (some ⟨c, 0, none⟩), .pointer (some ⟨g, 0, none⟩), .slice ba N bc] w fun E w' => E = .returned (.int .i64 0) ∧ Shown w g p c C F FM dk n pv v l (T.move (tx, tz)).1 [] w' := by
  have HH := Lib.hid h
  have HG := Lib.hid h.rg
  have HP := Lib.hid h.pa
  have HV := Lib.hid hv
  have HN := Lib.hid hN
  have HLP := Lib.hid h.pa.row.lt
  have HLV := Lib.hid (pv_lt h.pa)
  have HLC := Lib.hid h.cv.row.lt
  have HLO := Lib.hid (own_lt h.cv.its)
  clear h hv hN
  subst hd
  have HR := Lib.hid hR
  clear hR
  have HB := Lib.hid hB
  clear hB
  have HM := Lib.hid hM
  clear hM
  have HLK := Lib.hid hLK
  have HTM := Lib.hid hTM
  clear hLK hTM
  have tl : decide ((65535 : Int) < (N : Int)) = false := decide_eq_false (by omega)
  have t1 : decide ((0 : Int) < (N : Int)) = true := decide_eq_true (by omega)
  have t2 : decide (0 < N) = true := decide_eq_true (by omega)
  go_enter Tryd.func11, Tryd.ntmps11
  go_wp2_with (first
    | (go_at_call 33; ((with_reducible refine (ready_calls g C 65536 0 F FM true p 2 n pv T _ (HG.out.up (by exact ua)) (HP.out.up (by exact ua))).mono ?_); rw [HR.out]; rintro E w1 ⟨⟨gc, hg1, rfl⟩, hu1⟩; have z1 := hu1.size; (try simp at z1); have HU1 := Lib.hid (show Up w w1 by exact ua)))
    | ((refine wpList_store_Row rfl 74 (.tmp 7) _ rfl w1.heap.size #[.int .i64 C.a, .int .i64 C.b, .int .i64 C.c, .int .i64 C.d, .int .i64 C.x, .int .i64 C.y, .int .i64 1, .int .i64 0, .int .i64 0, .int .i64 0, .int .i64 0, .int .i64 65536, .int .i64 0, .int .i64 0, .int .i64 655360, .slice none 0 0, .int .i64 0, .int .i64 F, .int .i64 FM.a, .int .i64 FM.b, .int .i64 FM.c, .int .i64 FM.d, .int .i64 FM.x, .int .i64 FM.y, .slice (some ⟨gc, 0, none⟩) 0 0, .bool true] rfl rfl #[.int .i64 0, .int .i64 0, .int .i64 0, .int .i64 0, .int .i64 0, .int .i64 0, .int .i64 0, .int .i64 0, .int .i64 0, .int .i64 0, .int .i64 0, .int .i64 0, .int .i64 0, .int .i64 0, .int .i64 0, .slice none 0 0, .int .i64 0, .int .i64 0, .int .i64 0, .int .i64 0, .int .i64 0, .int .i64 0, .int .i64 0, .int .i64 0, .slice none 0 0, .bool false] (by exact ra) infoSt rfl rfl (by simp [Value.oneCell']) ?_); intro w2 hr2 hc2; have z2 := hc2.size; (try simp at z2); have R7_w2 := hr2; have RP2 : Row w2 (w1.heap.size + 1) #[.int .i64 0, .int .i64 0] := (by exact ra); have lp2 := RP2.lt; have p2_0 : w2.cell? ⟨w1.heap.size + 1, 0, none⟩ = some (.int .i64 0) := RP2.cell 0 rfl; have pf2_0 := RP2.free 0; have p2_1 : w2.cell? ⟨w1.heap.size + 1, 1, none⟩ = some (.int .i64 0) := RP2.cell 1 rfl; have pf2_1 := RP2.free 1)
    | (refine wpList_load_Row rfl 74 (.tmp 7) rfl w1.heap.size rfl #[.int .i64 C.a, .int .i64 C.b, .int .i64 C.c, .int .i64 C.d, .int .i64 C.x, .int .i64 C.y, .int .i64 1, .int .i64 0, .int .i64 0, .int .i64 0, .int .i64 0, .int .i64 65536, .int .i64 0, .int .i64 0, .int .i64 655360, .slice none 0 0, .int .i64 0, .int .i64 F, .int .i64 FM.a, .int .i64 FM.b, .int .i64 FM.c, .int .i64 FM.d, .int .i64 FM.x, .int .i64 FM.y, .slice (some ⟨gc, 0, none⟩) 0 0, .bool true] _ (by first | with_reducible assumption | exact ra) Tryd.underlying74 rfl infoSt rfl ?_)
    | (go_at_call 28; ((with_reducible refine (far_calls C 65536 0 F FM _ true (.slice ba N bc) bs _ (HV.out.up ((show Chg [] w _ from (by (repeat' (first | (with_reducible first | exact Chg.refl _ _ | assumption | refine Chg.alloc ?_ _ | refine Chg.drew ?_ | refine Chg.drewN ?_ _ | refine Chg.setCell ?_ ?_ _ | refine Chg.upc ?_ (by assumption) | refine Chg.call ?_ (by assumption) ?_) | (refine Or.inl ?_; (simp; done)) | (simp; done) | (simp; omega) | omega)))).up)) (by have := HN.out; omega)).mono ?_); rw [HB.out]; rintro E w3 ⟨rfl, hu3⟩; have z3 := hu3.size; (try simp at z3); have R7_w3 : Row w3 w1.heap.size #[.int .i64 C.a, .int .i64 C.b, .int .i64 C.c, .int .i64 C.d, .int .i64 C.x, .int .i64 C.y, .int .i64 1, .int .i64 0, .int .i64 0, .int .i64 0, .int .i64 0, .int .i64 65536, .int .i64 0, .int .i64 0, .int .i64 655360, .slice none 0 0, .int .i64 0, .int .i64 F, .int .i64 FM.a, .int .i64 FM.b, .int .i64 FM.c, .int .i64 FM.d, .int .i64 FM.x, .int .i64 FM.y, .slice (some ⟨gc, 0, none⟩) 0 0, .bool true] := Row.up (show Row _ w1.heap.size #[.int .i64 C.a, .int .i64 C.b, .int .i64 C.c, .int .i64 C.d, .int .i64 C.x, .int .i64 C.y, .int .i64 1, .int .i64 0, .int .i64 0, .int .i64 0, .int .i64 0, .int .i64 65536, .int .i64 0, .int .i64 0, .int .i64 655360, .slice none 0 0, .int .i64 0, .int .i64 F, .int .i64 FM.a, .int .i64 FM.b, .int .i64 FM.c, .int .i64 FM.d, .int .i64 FM.x, .int .i64 FM.y, .slice (some ⟨gc, 0, none⟩) 0 0, .bool true] from (by exact ra)) hu3; have l7_w3 := R7_w3.lt; have c7_w3_25 : w3.cell? ⟨w1.heap.size, 25, none⟩ = some (.bool true) := R7_w3.cell 25 rfl; have f7_w3_25 := R7_w3.free 25; have c7_w3_17 : w3.cell? ⟨w1.heap.size, 17, none⟩ = some (.int .i64 F) := R7_w3.cell 17 rfl; have f7_w3_17 := R7_w3.free 17; have R8_w3 : Row w3 (w1.heap.size + 1) #[.int .i64 x, .int .i64 y] := Row.up (show Row _ (w1.heap.size + 1) #[.int .i64 x, .int .i64 y] from (by exact ro)) hu3; have l8_w3 := R8_w3.lt; have c8_w3_0 : w3.cell? ⟨(w1.heap.size + 1), 0, none⟩ = some (.int .i64 x) := R8_w3.cell 0 rfl; have f8_w3_0 := R8_w3.free 0; have c8_w3_1 : w3.cell? ⟨(w1.heap.size + 1), 1, none⟩ = some (.int .i64 y) := R8_w3.cell 1 rfl; have f8_w3_1 := R8_w3.free 1; skip))
    | (go_at_call 34; ((with_reducible refine (moved_calls C 65536 0 F FM _ true x y bx bz _).mono ?_); rw [HM.out]; rintro E w4 ⟨rfl, hu4⟩; have z4 := hu4.size; (try simp at z4); have R7_w4 : Row w4 w1.heap.size #[.int .i64 C.a, .int .i64 C.b, .int .i64 C.c, .int .i64 C.d, .int .i64 C.x, .int .i64 C.y, .int .i64 1, .int .i64 0, .int .i64 0, .int .i64 0, .int .i64 0, .int .i64 65536, .int .i64 0, .int .i64 0, .int .i64 655360, .slice none 0 0, .int .i64 0, .int .i64 F, .int .i64 FM.a, .int .i64 FM.b, .int .i64 FM.c, .int .i64 FM.d, .int .i64 FM.x, .int .i64 FM.y, .slice (some ⟨gc, 0, none⟩) 0 0, .bool true] := Row.up (show Row _ w1.heap.size #[.int .i64 C.a, .int .i64 C.b, .int .i64 C.c, .int .i64 C.d, .int .i64 C.x, .int .i64 C.y, .int .i64 1, .int .i64 0, .int .i64 0, .int .i64 0, .int .i64 0, .int .i64 65536, .int .i64 0, .int .i64 0, .int .i64 655360, .slice none 0 0, .int .i64 0, .int .i64 F, .int .i64 FM.a, .int .i64 FM.b, .int .i64 FM.c, .int .i64 FM.d, .int .i64 FM.x, .int .i64 FM.y, .slice (some ⟨gc, 0, none⟩) 0 0, .bool true] from (by exact ra)) hu4; have l7_w4 := R7_w4.lt; have c7_w4_25 : w4.cell? ⟨w1.heap.size, 25, none⟩ = some (.bool true) := R7_w4.cell 25 rfl; have f7_w4_25 := R7_w4.free 25; have c7_w4_17 : w4.cell? ⟨w1.heap.size, 17, none⟩ = some (.int .i64 F) := R7_w4.cell 17 rfl; have f7_w4_17 := R7_w4.free 17; have R8_w4 : Row w4 (w1.heap.size + 1) #[.int .i64 x, .int .i64 y] := Row.up (show Row _ (w1.heap.size + 1) #[.int .i64 x, .int .i64 y] from (by exact ra)) hu4; have l8_w4 := R8_w4.lt; have c8_w4_0 : w4.cell? ⟨(w1.heap.size + 1), 0, none⟩ = some (.int .i64 x) := R8_w4.cell 0 rfl; have f8_w4_0 := R8_w4.free 0; have c8_w4_1 : w4.cell? ⟨(w1.heap.size + 1), 1, none⟩ = some (.int .i64 y) := R8_w4.cell 1 rfl; have f8_w4_1 := R8_w4.free 1; have R10_w4 : Row w4 w3.heap.size #[.int .i64 bx, .int .i64 bz] := Row.up (show Row _ w3.heap.size #[.int .i64 bx, .int .i64 bz] from (by exact ro)) hu4; have l10_w4 := R10_w4.lt; have c10_w4_0 : w4.cell? ⟨w3.heap.size, 0, none⟩ = some (.int .i64 bx) := R10_w4.cell 0 rfl; have f10_w4_0 := R10_w4.free 0; have c10_w4_1 : w4.cell? ⟨w3.heap.size, 1, none⟩ = some (.int .i64 bz) := R10_w4.cell 1 rfl; have f10_w4_1 := R10_w4.free 1; have HU4 := Lib.hid (show Up w w4 from (show Chg [] w w4 by (repeat' (first | (with_reducible first | exact Chg.refl _ _ | assumption | refine Chg.alloc ?_ _ | refine Chg.drew ?_ | refine Chg.drewN ?_ _ | refine Chg.setCell ?_ ?_ _ | refine Chg.upc ?_ (by assumption) | refine Chg.call ?_ (by assumption) ?_) | (refine Or.inl ?_; (simp; done)) | (simp; done) | (simp; omega) | omega))).up))))
  refine wp_region_held_drew (S := fun w' => Row w' w4.heap.size #[.int .i64 tx, .int .i64 tz]) (by kernel_rfl) ?_ (fun hHeld => ?_)
  · exact Row.drew (show Row _ w4.heap.size #[.int .i64 tx, .int .i64 tz] from (by exact ro))
  refine wpAnyH_take (i := 0) (v := ?_) rfl (by kernel_rfl) (by kernel_rfl) (by kernel_rfl) (fun _ _ _ h => h) (Or.inl ⟨by rfl, ?_⟩) (by assumption) ?_
  rotate_left
  · intro w2 hSw
    (try dsimp only at hSw)
    (try (obtain ⟨hs1, hs2, hs3⟩ := hSw))
    go_simp
    (try (with_reducible rfl))
  (try simp only [Act.put, lga, lgz, lgs, lsa, lsz, lss])
  refine wpAnyH_take (i := 3) rfl (by kernel_rfl) (by kernel_rfl) (by kernel_rfl) (fun _ _ _ h => h) (yieldsIf_load_mid (by rfl) 24 (.tmp 11) rfl w4.heap.size 0 rfl #[.int .i64 tx, .int .i64 tz].toList _ (fun _ h => rng0 h) Tryd.underlying24 rfl (by exact infoP)) (by assumption) ?_
  (try simp only [Act.put, lga, lgz, lgs, lsa, lsz, lss])
  refine wpAnyH_ready (rs := [1]) (by decide +kernel) (by simp) ?_
  refine AllReadyH.cons rfl (fun K hK => ?_) (AllReadyH.nil)
  (try simp only [lga, lgz, lgs])
  (go_simp; go_at_call 16; (with_reducible refine (path_calls g p _ ((HG.out.up (show Up w _ from (show Chg [] w _ by (repeat' (first | (with_reducible first | exact Chg.refl _ _ | assumption | refine Chg.alloc ?_ _ | refine Chg.drew ?_ | refine Chg.drewN ?_ _ | refine Chg.setCell ?_ ?_ _ | refine Chg.upc ?_ (by assumption) | refine Chg.call ?_ (by assumption) ?_) | (refine Or.inl ?_; (simp; done)) | (simp; done) | (simp; omega) | omega))).up)).cell 26 rfl)).mono ?_); rintro E wx ⟨rfl, rfl⟩; (try dsimp only))
  refine hK.out _ _ ?_ (fun hHeld => ?_)
  · exact hHeld
  clear hK K
  (try simp only [Act.put, lga, lgz, lgs, lsa, lsz, lss])
  refine wpAnyH_ready (rs := [2]) (by decide +kernel) (by simp) ?_
  refine AllReadyH.cons rfl (fun K hK => ?_) (AllReadyH.nil)
  (try simp only [lga, lgz, lgs])
  (go_simp; go_at_call 35; (with_reducible refine (Path.copy_calls p pv T _ (HP.out.up (show Up w _ from (show Chg [] w _ by (repeat' (first | (with_reducible first | exact Chg.refl _ _ | assumption | refine Chg.alloc ?_ _ | refine Chg.drew ?_ | refine Chg.drewN ?_ _ | refine Chg.setCell ?_ ?_ _ | refine Chg.upc ?_ (by assumption) | refine Chg.call ?_ (by assumption) ?_) | (refine Or.inl ?_; (simp; done)) | (simp; done) | (simp; omega) | omega))).up))).mono ?_); rintro E w5 ⟨p5, pv5, rfl, hp5, hq5, hu5, ho5⟩; have z5 := hu5.size; (try simp at z5); (try simp at hp5); (try simp at ho5); have HQ5 := Lib.hid hq5; clear hq5; have R7_w5 : Row w5 w1.heap.size #[.int .i64 C.a, .int .i64 C.b, .int .i64 C.c, .int .i64 C.d, .int .i64 C.x, .int .i64 C.y, .int .i64 1, .int .i64 0, .int .i64 0, .int .i64 0, .int .i64 0, .int .i64 65536, .int .i64 0, .int .i64 0, .int .i64 655360, .slice none 0 0, .int .i64 0, .int .i64 F, .int .i64 FM.a, .int .i64 FM.b, .int .i64 FM.c, .int .i64 FM.d, .int .i64 FM.x, .int .i64 FM.y, .slice (some ⟨gc, 0, none⟩) 0 0, .bool true] := Row.up (show Row _ w1.heap.size #[.int .i64 C.a, .int .i64 C.b, .int .i64 C.c, .int .i64 C.d, .int .i64 C.x, .int .i64 C.y, .int .i64 1, .int .i64 0, .int .i64 0, .int .i64 0, .int .i64 0, .int .i64 65536, .int .i64 0, .int .i64 0, .int .i64 655360, .slice none 0 0, .int .i64 0, .int .i64 F, .int .i64 FM.a, .int .i64 FM.b, .int .i64 FM.c, .int .i64 FM.d, .int .i64 FM.x, .int .i64 FM.y, .slice (some ⟨gc, 0, none⟩) 0 0, .bool true] from (by exact ra)) hu5; have l7_w5 := R7_w5.lt; have c7_w5_25 : w5.cell? ⟨w1.heap.size, 25, none⟩ = some (.bool true) := R7_w5.cell 25 rfl; have f7_w5_25 := R7_w5.free 25; have c7_w5_17 : w5.cell? ⟨w1.heap.size, 17, none⟩ = some (.int .i64 F) := R7_w5.cell 17 rfl; have f7_w5_17 := R7_w5.free 17; have R8_w5 : Row w5 (w1.heap.size + 1) #[.int .i64 x, .int .i64 y] := Row.up (show Row _ (w1.heap.size + 1) #[.int .i64 x, .int .i64 y] from (by exact ra)) hu5; have l8_w5 := R8_w5.lt; have c8_w5_0 : w5.cell? ⟨(w1.heap.size + 1), 0, none⟩ = some (.int .i64 x) := R8_w5.cell 0 rfl; have f8_w5_0 := R8_w5.free 0; have c8_w5_1 : w5.cell? ⟨(w1.heap.size + 1), 1, none⟩ = some (.int .i64 y) := R8_w5.cell 1 rfl; have f8_w5_1 := R8_w5.free 1; have R11_w5 : Row w5 w4.heap.size #[.int .i64 tx, .int .i64 tz] := Row.up (show Row _ w4.heap.size #[.int .i64 tx, .int .i64 tz] from (by exact ro)) hu5; have l11_w5 := R11_w5.lt; have c11_w5_0 : w5.cell? ⟨w4.heap.size, 0, none⟩ = some (.int .i64 tx) := R11_w5.cell 0 rfl; have f11_w5_0 := R11_w5.free 0; have c11_w5_1 : w5.cell? ⟨w4.heap.size, 1, none⟩ = some (.int .i64 tz) := R11_w5.cell 1 rfl; have f11_w5_1 := R11_w5.free 1; (try dsimp only))
  refine hK.out _ _ ?_ (fun hHeld => ?_)
  · exact R11_w5
  clear hK K
  (try simp only [Act.put, lga, lgz, lgs, lsa, lsz, lss])
  refine wpAnyH_ready (rs := [4]) (by decide +kernel) (by simp) ?_
  refine AllReadyH.cons rfl (fun K hK => ?_) (AllReadyH.nil)
  (try simp only [lga, lgz, lgs])
  (go_simp; go_at_call 25; (with_reducible refine (Path.move_onto p5 pv5 T tx tz _ HQ5.out HLK.out).mono ?_); rw [HTM.out]; rintro E w6 ⟨rfl, hl6⟩; (obtain ⟨pv6, -, hc6, -⟩ := hl6); have hu6 : Up w4 w6 := ((show Chg [] w4 w5 by (repeat' (first | (with_reducible first | exact Chg.refl _ _ | assumption | refine Chg.alloc ?_ _ | refine Chg.drew ?_ | refine Chg.drewN ?_ _ | refine Chg.setCell ?_ ?_ _ | refine Chg.upc ?_ (by assumption) | refine Chg.call ?_ (by assumption) ?_) | (refine Or.inl ?_; (simp; done)) | (simp; done) | (simp; omega) | omega))).call hc6 (fun k hk => Or.inr (by rcases List.mem_cons.1 hk with h1 | h1; (omega); (have := ho5 k (Path.own_of h1); omega)))).up; have z6 := hu6.size; have R7_w6 := R7_w4.up hu6; have R8_w6 := R8_w4.up hu6; have R11_w6 : Row w6 w4.heap.size #[.int .i64 tx, .int .i64 tz] := R11_w5.chg hc6 (fun hk => by rcases List.mem_cons.1 hk with h1 | h1; (omega); (have := ho5 _ (Path.own_of h1); omega)); have l7_w6 := R7_w6.lt; have c7_w6_25 : w6.cell? ⟨w1.heap.size, 25, none⟩ = some (.bool true) := R7_w6.cell 25 rfl; have f7_w6_25 := R7_w6.free 25; have c7_w6_17 : w6.cell? ⟨w1.heap.size, 17, none⟩ = some (.int .i64 F) := R7_w6.cell 17 rfl; have f7_w6_17 := R7_w6.free 17; have l8_w6 := R8_w6.lt; have c8_w6_0 : w6.cell? ⟨(w1.heap.size + 1), 0, none⟩ = some (.int .i64 x) := R8_w6.cell 0 rfl; have f8_w6_0 := R8_w6.free 0; have c8_w6_1 : w6.cell? ⟨(w1.heap.size + 1), 1, none⟩ = some (.int .i64 y) := R8_w6.cell 1 rfl; have f8_w6_1 := R8_w6.free 1; have l11_w6 := R11_w6.lt; have c11_w6_0 : w6.cell? ⟨w4.heap.size, 0, none⟩ = some (.int .i64 tx) := R11_w6.cell 0 rfl; have f11_w6_0 := R11_w6.free 0; have c11_w6_1 : w6.cell? ⟨w4.heap.size, 1, none⟩ = some (.int .i64 tz) := R11_w6.cell 1 rfl; have f11_w6_1 := R11_w6.free 1; have HU6 := Lib.hid (show Up w w6 from Up.call HU4.out hu6); clear HQ5; (try dsimp only))
  refine hK.out _ _ ?_ (fun hHeld => ?_)
  · exact R11_w6
  clear hK K
  (try simp only [Act.put, lga, lgz, lgs, lsa, lsz, lss])
  refine wpAnyH_take (i := 5) (v := ?_) rfl (by kernel_rfl) (by kernel_rfl) (by kernel_rfl) (fun _ _ _ h => h) (Or.inl ⟨by rfl, ?_⟩) (by assumption) ?_
  rotate_left
  · intro w2 hSw
    (try dsimp only at hSw)
    (try (obtain ⟨hs1, hs2, hs3⟩ := hSw))
    go_simp
    (try (with_reducible rfl))
  (try simp only [Act.put, lga, lgz, lgs, lsa, lsz, lss])
  refine wpAnyH_done (by kernel_rfl) ?_ _
  clear hHeld
  go_wp2
  refine wp_region_held_drew (S := fun w' => Row w' w4.heap.size #[.int .i64 tx, .int .i64 tz]) (by kernel_rfl) ?_ (fun hHeld => ?_)
  · exact Row.drew R11_w6
  refine wpAnyH_take (i := 0) (v := ?_) rfl (by kernel_rfl) (by kernel_rfl) (by kernel_rfl) (fun _ _ _ h => h) (Or.inl ⟨by rfl, ?_⟩) (by assumption) ?_
  rotate_left
  · intro w2 hSw
    (try dsimp only at hSw)
    (try (obtain ⟨hs1, hs2, hs3⟩ := hSw))
    go_simp
    (try (with_reducible rfl))
  (try simp only [Act.put, lga, lgz, lgs, lsa, lsz, lss])
  refine wpAnyH_take (i := 2) rfl (by kernel_rfl) (by kernel_rfl) (by kernel_rfl) (fun _ _ _ h => h) (yieldsIf_load_mid (by rfl) 24 (.tmp 11) rfl w4.heap.size 0 rfl #[.int .i64 tx, .int .i64 tz].toList _ (fun _ h => rng0 h) Tryd.underlying24 rfl (by exact infoP)) (by assumption) ?_
  (try simp only [Act.put, lga, lgz, lgs, lsa, lsz, lss])
  refine wpAnyH_ready (rs := [1]) (by decide +kernel) (by simp) ?_
  refine AllReadyH.cons rfl (fun K hK => ?_) (AllReadyH.nil)
  (try simp only [lga, lgz, lgs])
  (go_simp; go_at_call 16; (with_reducible refine (path_calls g p _ (Row.cell (show Row _ g (gsC C 65536 (.slice none 0 0) 0 F FM true p 2 n) from Row.drew (HG.out.up HU6.out)) 26 rfl)).mono ?_); rintro E wx ⟨rfl, rfl⟩; (try dsimp only))
  refine hK.out _ _ ?_ (fun hHeld => ?_)
  · exact hHeld
  clear hK K
  (try simp only [Act.put, lga, lgz, lgs, lsa, lsz, lss])
  refine wpAnyH_ready (rs := [3]) (by decide +kernel) (by simp) ?_
  refine AllReadyH.cons rfl (fun K hK => ?_) (AllReadyH.nil)
  (try simp only [lga, lgz, lgs])
  (go_simp; go_at_call 25; (with_reducible refine (Path.move_onto p pv T tx tz _ (Path.PathIs.up (w := w6) (HP.out.up HU6.out) (Up.drew (Up.refl _))) HLK.out).mono ?_); rw [HTM.out]; rintro E w7 ⟨rfl, hl7⟩; have HL7 := Lib.hid (Path.Left.of_up (show Up w6 _ from Up.drew (Up.refl _)) hl7); (try dsimp only))
  refine hK.out _ _ ?_ (fun hHeld => ?_)
  · exact (let ⟨_, _, hc7, _⟩ := hl7; Row.chg hHeld hc7 (fun hk => by rcases List.mem_cons.1 hk with h1 | h1; (have := HLP.out; omega); (have := HLV.out _ h1; omega)))
  clear hK K
  (try simp only [Act.put, lga, lgz, lgs, lsa, lsz, lss])
  refine wpAnyH_take (i := 4) (v := ?_) rfl (by kernel_rfl) (by kernel_rfl) (by kernel_rfl) (fun _ _ _ h => h) (Or.inl ⟨by rfl, ?_⟩) (by assumption) ?_
  rotate_left
  · intro w2 hSw
    (try dsimp only at hSw)
    (try (obtain ⟨hs1, hs2, hs3⟩ := hSw))
    go_simp
    (try (with_reducible rfl))
  (try simp only [Act.put, lga, lgz, lgs, lsa, lsz, lss])
  refine wpAnyH_done (by kernel_rfl) ?_ _
  clear hHeld
  go_wp2
  go_ret
  exact ⟨rfl, Shown.of_up HU6.out (Shown.moved (HH.out.up HU6.out) HL7.out)⟩

set_option maxRecDepth 8000 in
set_option maxHeartbeats 4000000 in
theorem show_bad (g p c : Nat) (C : M6) (F : Int) (FM : M6) (dk : Bool) (n : Int) (pv v : Value) (T : St) (l : List Cl) (x y : Int) (ba : Option Addr) (bc N : Nat) (bs : List Int) (w : World) (h : Prg w g p c C F FM dk n pv v T l)
    (hN : bs.length = N) (hv : Ints .u8 w (.slice ba N bc) bs) (hl : N ≤ 65535) (hR : placeR F T = ((x, y), 0)) (bx bz tx tz : Int) (hB : farR F FM bs = ((bx, bz), 0)) (hM : movedR C x y bx bz = ((tx, tz), 0)) (hLK : lastK T.l = 1) (hTM : (T.move (tx, tz)).2 = 0) (h0 : 0 < N) (hd : dk = false) (h4 : (Lit.int .i64 C.x).wf = true) (h5 : (Lit.int .i64 C.y).wf = true) (mm : M6) (e : Int) (hC : concat FM C = (mm, e)) (hme : e ≠ 0) :
    Calls Tryd.prog 11 #[.pointer (some ⟨c, 0, none⟩), .pointer (some ⟨g, 0, none⟩), .slice ba N bc] w fun E w' => E = .returned (.int .i64 e) ∧ Up w w' := by
  have HH := Lib.hid h
  have HG := Lib.hid h.rg
  have HP := Lib.hid h.pa
  have HV := Lib.hid hv
  have HN := Lib.hid hN
  have HLP := Lib.hid h.pa.row.lt
  have HLV := Lib.hid (pv_lt h.pa)
  have HLC := Lib.hid h.cv.row.lt
  have HLO := Lib.hid (own_lt h.cv.its)
  clear h hv hN
  subst hd
  have HR := Lib.hid hR
  clear hR
  have HB := Lib.hid hB
  clear hB
  have HM := Lib.hid hM
  clear hM
  have HLK := Lib.hid hLK
  have HTM := Lib.hid hTM
  clear hLK hTM
  have tl : decide ((65535 : Int) < (N : Int)) = false := decide_eq_false (by omega)
  have t1 : decide ((0 : Int) < (N : Int)) = true := decide_eq_true (by omega)
  have t2 : decide (0 < N) = true := decide_eq_true (by omega)
  have t0 : (e == 0) = false := by simpa using hme
  have HC := Lib.hid hC
  have HME := Lib.hid (show (concat FM C).2 ≠ 0 by rw [hC]; exact hme)
  clear hC
  go_enter Tryd.func11, Tryd.ntmps11
  go_wp2_with (first
    | (go_at_call 33; ((with_reducible refine (ready_calls g C 65536 0 F FM false p 2 n pv T _ (HG.out.up (by exact ua)) (HP.out.up (by exact ua))).mono ?_); rw [HR.out]; rintro E w1 ⟨⟨gc, hg1, rfl⟩, hu1⟩; have z1 := hu1.size; (try simp at z1); have HU1 := Lib.hid (show Up w w1 by exact ua)))
    | ((refine wpList_store_Row rfl 74 (.tmp 7) _ rfl w1.heap.size #[.int .i64 C.a, .int .i64 C.b, .int .i64 C.c, .int .i64 C.d, .int .i64 C.x, .int .i64 C.y, .int .i64 1, .int .i64 0, .int .i64 0, .int .i64 0, .int .i64 0, .int .i64 65536, .int .i64 0, .int .i64 0, .int .i64 655360, .slice none 0 0, .int .i64 0, .int .i64 F, .int .i64 FM.a, .int .i64 FM.b, .int .i64 FM.c, .int .i64 FM.d, .int .i64 FM.x, .int .i64 FM.y, .slice (some ⟨gc, 0, none⟩) 0 0, .bool false] rfl rfl #[.int .i64 0, .int .i64 0, .int .i64 0, .int .i64 0, .int .i64 0, .int .i64 0, .int .i64 0, .int .i64 0, .int .i64 0, .int .i64 0, .int .i64 0, .int .i64 0, .int .i64 0, .int .i64 0, .int .i64 0, .slice none 0 0, .int .i64 0, .int .i64 0, .int .i64 0, .int .i64 0, .int .i64 0, .int .i64 0, .int .i64 0, .int .i64 0, .slice none 0 0, .bool false] (by exact ra) infoSt rfl rfl (by simp [Value.oneCell']) ?_); intro w2 hr2 hc2; have z2 := hc2.size; (try simp at z2); have R7_w2 := hr2; have RP2 : Row w2 (w1.heap.size + 1) #[.int .i64 0, .int .i64 0] := (by exact ra); have lp2 := RP2.lt; have p2_0 : w2.cell? ⟨w1.heap.size + 1, 0, none⟩ = some (.int .i64 0) := RP2.cell 0 rfl; have pf2_0 := RP2.free 0; have p2_1 : w2.cell? ⟨w1.heap.size + 1, 1, none⟩ = some (.int .i64 0) := RP2.cell 1 rfl; have pf2_1 := RP2.free 1)
    | (refine wpList_load_Row rfl 74 (.tmp 7) rfl w1.heap.size rfl #[.int .i64 C.a, .int .i64 C.b, .int .i64 C.c, .int .i64 C.d, .int .i64 C.x, .int .i64 C.y, .int .i64 1, .int .i64 0, .int .i64 0, .int .i64 0, .int .i64 0, .int .i64 65536, .int .i64 0, .int .i64 0, .int .i64 655360, .slice none 0 0, .int .i64 0, .int .i64 F, .int .i64 FM.a, .int .i64 FM.b, .int .i64 FM.c, .int .i64 FM.d, .int .i64 FM.x, .int .i64 FM.y, .slice (some ⟨gc, 0, none⟩) 0 0, .bool false] _ (by first | with_reducible assumption | exact ra) Tryd.underlying74 rfl infoSt rfl ?_)
    | (go_at_call 28; ((with_reducible refine (far_calls C 65536 0 F FM _ false (.slice ba N bc) bs _ (HV.out.up ((show Chg [] w _ from (by (repeat' (first | (with_reducible first | exact Chg.refl _ _ | assumption | refine Chg.alloc ?_ _ | refine Chg.drew ?_ | refine Chg.drewN ?_ _ | refine Chg.setCell ?_ ?_ _ | refine Chg.upc ?_ (by assumption) | refine Chg.call ?_ (by assumption) ?_) | (refine Or.inl ?_; (simp; done)) | (simp; done) | (simp; omega) | omega)))).up)) (by have := HN.out; omega)).mono ?_); rw [HB.out]; rintro E w3 ⟨rfl, hu3⟩; have z3 := hu3.size; (try simp at z3); have R7_w3 : Row w3 w1.heap.size #[.int .i64 C.a, .int .i64 C.b, .int .i64 C.c, .int .i64 C.d, .int .i64 C.x, .int .i64 C.y, .int .i64 1, .int .i64 0, .int .i64 0, .int .i64 0, .int .i64 0, .int .i64 65536, .int .i64 0, .int .i64 0, .int .i64 655360, .slice none 0 0, .int .i64 0, .int .i64 F, .int .i64 FM.a, .int .i64 FM.b, .int .i64 FM.c, .int .i64 FM.d, .int .i64 FM.x, .int .i64 FM.y, .slice (some ⟨gc, 0, none⟩) 0 0, .bool false] := Row.up (show Row _ w1.heap.size #[.int .i64 C.a, .int .i64 C.b, .int .i64 C.c, .int .i64 C.d, .int .i64 C.x, .int .i64 C.y, .int .i64 1, .int .i64 0, .int .i64 0, .int .i64 0, .int .i64 0, .int .i64 65536, .int .i64 0, .int .i64 0, .int .i64 655360, .slice none 0 0, .int .i64 0, .int .i64 F, .int .i64 FM.a, .int .i64 FM.b, .int .i64 FM.c, .int .i64 FM.d, .int .i64 FM.x, .int .i64 FM.y, .slice (some ⟨gc, 0, none⟩) 0 0, .bool false] from (by exact ra)) hu3; have l7_w3 := R7_w3.lt; have c7_w3_25 : w3.cell? ⟨w1.heap.size, 25, none⟩ = some (.bool false) := R7_w3.cell 25 rfl; have f7_w3_25 := R7_w3.free 25; have c7_w3_17 : w3.cell? ⟨w1.heap.size, 17, none⟩ = some (.int .i64 F) := R7_w3.cell 17 rfl; have f7_w3_17 := R7_w3.free 17; have R8_w3 : Row w3 (w1.heap.size + 1) #[.int .i64 x, .int .i64 y] := Row.up (show Row _ (w1.heap.size + 1) #[.int .i64 x, .int .i64 y] from (by exact ro)) hu3; have l8_w3 := R8_w3.lt; have c8_w3_0 : w3.cell? ⟨(w1.heap.size + 1), 0, none⟩ = some (.int .i64 x) := R8_w3.cell 0 rfl; have f8_w3_0 := R8_w3.free 0; have c8_w3_1 : w3.cell? ⟨(w1.heap.size + 1), 1, none⟩ = some (.int .i64 y) := R8_w3.cell 1 rfl; have f8_w3_1 := R8_w3.free 1; skip))
    | (go_at_call 34; ((with_reducible refine (moved_calls C 65536 0 F FM _ false x y bx bz _).mono ?_); rw [HM.out]; rintro E w4 ⟨rfl, hu4⟩; have z4 := hu4.size; (try simp at z4); have R7_w4 : Row w4 w1.heap.size #[.int .i64 C.a, .int .i64 C.b, .int .i64 C.c, .int .i64 C.d, .int .i64 C.x, .int .i64 C.y, .int .i64 1, .int .i64 0, .int .i64 0, .int .i64 0, .int .i64 0, .int .i64 65536, .int .i64 0, .int .i64 0, .int .i64 655360, .slice none 0 0, .int .i64 0, .int .i64 F, .int .i64 FM.a, .int .i64 FM.b, .int .i64 FM.c, .int .i64 FM.d, .int .i64 FM.x, .int .i64 FM.y, .slice (some ⟨gc, 0, none⟩) 0 0, .bool false] := Row.up (show Row _ w1.heap.size #[.int .i64 C.a, .int .i64 C.b, .int .i64 C.c, .int .i64 C.d, .int .i64 C.x, .int .i64 C.y, .int .i64 1, .int .i64 0, .int .i64 0, .int .i64 0, .int .i64 0, .int .i64 65536, .int .i64 0, .int .i64 0, .int .i64 655360, .slice none 0 0, .int .i64 0, .int .i64 F, .int .i64 FM.a, .int .i64 FM.b, .int .i64 FM.c, .int .i64 FM.d, .int .i64 FM.x, .int .i64 FM.y, .slice (some ⟨gc, 0, none⟩) 0 0, .bool false] from (by exact ra)) hu4; have l7_w4 := R7_w4.lt; have c7_w4_25 : w4.cell? ⟨w1.heap.size, 25, none⟩ = some (.bool false) := R7_w4.cell 25 rfl; have f7_w4_25 := R7_w4.free 25; have c7_w4_17 : w4.cell? ⟨w1.heap.size, 17, none⟩ = some (.int .i64 F) := R7_w4.cell 17 rfl; have f7_w4_17 := R7_w4.free 17; have R8_w4 : Row w4 (w1.heap.size + 1) #[.int .i64 x, .int .i64 y] := Row.up (show Row _ (w1.heap.size + 1) #[.int .i64 x, .int .i64 y] from (by exact ra)) hu4; have l8_w4 := R8_w4.lt; have c8_w4_0 : w4.cell? ⟨(w1.heap.size + 1), 0, none⟩ = some (.int .i64 x) := R8_w4.cell 0 rfl; have f8_w4_0 := R8_w4.free 0; have c8_w4_1 : w4.cell? ⟨(w1.heap.size + 1), 1, none⟩ = some (.int .i64 y) := R8_w4.cell 1 rfl; have f8_w4_1 := R8_w4.free 1; have R10_w4 : Row w4 w3.heap.size #[.int .i64 bx, .int .i64 bz] := Row.up (show Row _ w3.heap.size #[.int .i64 bx, .int .i64 bz] from (by exact ro)) hu4; have l10_w4 := R10_w4.lt; have c10_w4_0 : w4.cell? ⟨w3.heap.size, 0, none⟩ = some (.int .i64 bx) := R10_w4.cell 0 rfl; have f10_w4_0 := R10_w4.free 0; have c10_w4_1 : w4.cell? ⟨w3.heap.size, 1, none⟩ = some (.int .i64 bz) := R10_w4.cell 1 rfl; have f10_w4_1 := R10_w4.free 1; have HU4 := Lib.hid (show Up w w4 from (show Chg [] w w4 by (repeat' (first | (with_reducible first | exact Chg.refl _ _ | assumption | refine Chg.alloc ?_ _ | refine Chg.drew ?_ | refine Chg.drewN ?_ _ | refine Chg.setCell ?_ ?_ _ | refine Chg.upc ?_ (by assumption) | refine Chg.call ?_ (by assumption) ?_) | (refine Or.inl ?_; (simp; done)) | (simp; done) | (simp; omega) | omega))).up))))
  refine wp_region_held_drew (S := fun w' => Row w' w4.heap.size #[.int .i64 tx, .int .i64 tz]) (by kernel_rfl) ?_ (fun hHeld => ?_)
  · exact Row.drew (show Row _ w4.heap.size #[.int .i64 tx, .int .i64 tz] from (by exact ro))
  refine wpAnyH_take (i := 0) (v := ?_) rfl (by kernel_rfl) (by kernel_rfl) (by kernel_rfl) (fun _ _ _ h => h) (Or.inl ⟨by rfl, ?_⟩) (by assumption) ?_
  rotate_left
  · intro w2 hSw
    (try dsimp only at hSw)
    (try (obtain ⟨hs1, hs2, hs3⟩ := hSw))
    go_simp
    (try (with_reducible rfl))
  (try simp only [Act.put, lga, lgz, lgs, lsa, lsz, lss])
  refine wpAnyH_take (i := 3) rfl (by kernel_rfl) (by kernel_rfl) (by kernel_rfl) (fun _ _ _ h => h) (yieldsIf_load_mid (by rfl) 24 (.tmp 11) rfl w4.heap.size 0 rfl #[.int .i64 tx, .int .i64 tz].toList _ (fun _ h => rng0 h) Tryd.underlying24 rfl (by exact infoP)) (by assumption) ?_
  (try simp only [Act.put, lga, lgz, lgs, lsa, lsz, lss])
  refine wpAnyH_ready (rs := [1]) (by decide +kernel) (by simp) ?_
  refine AllReadyH.cons rfl (fun K hK => ?_) (AllReadyH.nil)
  (try simp only [lga, lgz, lgs])
  (go_simp; go_at_call 16; (with_reducible refine (path_calls g p _ ((HG.out.up (show Up w _ from (show Chg [] w _ by (repeat' (first | (with_reducible first | exact Chg.refl _ _ | assumption | refine Chg.alloc ?_ _ | refine Chg.drew ?_ | refine Chg.drewN ?_ _ | refine Chg.setCell ?_ ?_ _ | refine Chg.upc ?_ (by assumption) | refine Chg.call ?_ (by assumption) ?_) | (refine Or.inl ?_; (simp; done)) | (simp; done) | (simp; omega) | omega))).up)).cell 26 rfl)).mono ?_); rintro E wx ⟨rfl, rfl⟩; (try dsimp only))
  refine hK.out _ _ ?_ (fun hHeld => ?_)
  · exact hHeld
  clear hK K
  (try simp only [Act.put, lga, lgz, lgs, lsa, lsz, lss])
  refine wpAnyH_ready (rs := [2]) (by decide +kernel) (by simp) ?_
  refine AllReadyH.cons rfl (fun K hK => ?_) (AllReadyH.nil)
  (try simp only [lga, lgz, lgs])
  (go_simp; go_at_call 35; (with_reducible refine (Path.copy_calls p pv T _ (HP.out.up (show Up w _ from (show Chg [] w _ by (repeat' (first | (with_reducible first | exact Chg.refl _ _ | assumption | refine Chg.alloc ?_ _ | refine Chg.drew ?_ | refine Chg.drewN ?_ _ | refine Chg.setCell ?_ ?_ _ | refine Chg.upc ?_ (by assumption) | refine Chg.call ?_ (by assumption) ?_) | (refine Or.inl ?_; (simp; done)) | (simp; done) | (simp; omega) | omega))).up))).mono ?_); rintro E w5 ⟨p5, pv5, rfl, hp5, hq5, hu5, ho5⟩; have z5 := hu5.size; (try simp at z5); (try simp at hp5); (try simp at ho5); have HQ5 := Lib.hid hq5; clear hq5; have R7_w5 : Row w5 w1.heap.size #[.int .i64 C.a, .int .i64 C.b, .int .i64 C.c, .int .i64 C.d, .int .i64 C.x, .int .i64 C.y, .int .i64 1, .int .i64 0, .int .i64 0, .int .i64 0, .int .i64 0, .int .i64 65536, .int .i64 0, .int .i64 0, .int .i64 655360, .slice none 0 0, .int .i64 0, .int .i64 F, .int .i64 FM.a, .int .i64 FM.b, .int .i64 FM.c, .int .i64 FM.d, .int .i64 FM.x, .int .i64 FM.y, .slice (some ⟨gc, 0, none⟩) 0 0, .bool false] := Row.up (show Row _ w1.heap.size #[.int .i64 C.a, .int .i64 C.b, .int .i64 C.c, .int .i64 C.d, .int .i64 C.x, .int .i64 C.y, .int .i64 1, .int .i64 0, .int .i64 0, .int .i64 0, .int .i64 0, .int .i64 65536, .int .i64 0, .int .i64 0, .int .i64 655360, .slice none 0 0, .int .i64 0, .int .i64 F, .int .i64 FM.a, .int .i64 FM.b, .int .i64 FM.c, .int .i64 FM.d, .int .i64 FM.x, .int .i64 FM.y, .slice (some ⟨gc, 0, none⟩) 0 0, .bool false] from (by exact ra)) hu5; have l7_w5 := R7_w5.lt; have c7_w5_25 : w5.cell? ⟨w1.heap.size, 25, none⟩ = some (.bool false) := R7_w5.cell 25 rfl; have f7_w5_25 := R7_w5.free 25; have c7_w5_17 : w5.cell? ⟨w1.heap.size, 17, none⟩ = some (.int .i64 F) := R7_w5.cell 17 rfl; have f7_w5_17 := R7_w5.free 17; have R8_w5 : Row w5 (w1.heap.size + 1) #[.int .i64 x, .int .i64 y] := Row.up (show Row _ (w1.heap.size + 1) #[.int .i64 x, .int .i64 y] from (by exact ra)) hu5; have l8_w5 := R8_w5.lt; have c8_w5_0 : w5.cell? ⟨(w1.heap.size + 1), 0, none⟩ = some (.int .i64 x) := R8_w5.cell 0 rfl; have f8_w5_0 := R8_w5.free 0; have c8_w5_1 : w5.cell? ⟨(w1.heap.size + 1), 1, none⟩ = some (.int .i64 y) := R8_w5.cell 1 rfl; have f8_w5_1 := R8_w5.free 1; have R11_w5 : Row w5 w4.heap.size #[.int .i64 tx, .int .i64 tz] := Row.up (show Row _ w4.heap.size #[.int .i64 tx, .int .i64 tz] from (by exact ro)) hu5; have l11_w5 := R11_w5.lt; have c11_w5_0 : w5.cell? ⟨w4.heap.size, 0, none⟩ = some (.int .i64 tx) := R11_w5.cell 0 rfl; have f11_w5_0 := R11_w5.free 0; have c11_w5_1 : w5.cell? ⟨w4.heap.size, 1, none⟩ = some (.int .i64 tz) := R11_w5.cell 1 rfl; have f11_w5_1 := R11_w5.free 1; (try dsimp only))
  refine hK.out _ _ ?_ (fun hHeld => ?_)
  · exact R11_w5
  clear hK K
  (try simp only [Act.put, lga, lgz, lgs, lsa, lsz, lss])
  refine wpAnyH_ready (rs := [4]) (by decide +kernel) (by simp) ?_
  refine AllReadyH.cons rfl (fun K hK => ?_) (AllReadyH.nil)
  (try simp only [lga, lgz, lgs])
  (go_simp; go_at_call 25; (with_reducible refine (Path.move_onto p5 pv5 T tx tz _ HQ5.out HLK.out).mono ?_); rw [HTM.out]; rintro E w6 ⟨rfl, hl6⟩; (obtain ⟨pv6, -, hc6, -⟩ := hl6); have hu6 : Up w4 w6 := ((show Chg [] w4 w5 by (repeat' (first | (with_reducible first | exact Chg.refl _ _ | assumption | refine Chg.alloc ?_ _ | refine Chg.drew ?_ | refine Chg.drewN ?_ _ | refine Chg.setCell ?_ ?_ _ | refine Chg.upc ?_ (by assumption) | refine Chg.call ?_ (by assumption) ?_) | (refine Or.inl ?_; (simp; done)) | (simp; done) | (simp; omega) | omega))).call hc6 (fun k hk => Or.inr (by rcases List.mem_cons.1 hk with h1 | h1; (omega); (have := ho5 k (Path.own_of h1); omega)))).up; have z6 := hu6.size; have R7_w6 := R7_w4.up hu6; have R8_w6 := R8_w4.up hu6; have R11_w6 : Row w6 w4.heap.size #[.int .i64 tx, .int .i64 tz] := R11_w5.chg hc6 (fun hk => by rcases List.mem_cons.1 hk with h1 | h1; (omega); (have := ho5 _ (Path.own_of h1); omega)); have l7_w6 := R7_w6.lt; have c7_w6_25 : w6.cell? ⟨w1.heap.size, 25, none⟩ = some (.bool false) := R7_w6.cell 25 rfl; have f7_w6_25 := R7_w6.free 25; have c7_w6_17 : w6.cell? ⟨w1.heap.size, 17, none⟩ = some (.int .i64 F) := R7_w6.cell 17 rfl; have f7_w6_17 := R7_w6.free 17; have l8_w6 := R8_w6.lt; have c8_w6_0 : w6.cell? ⟨(w1.heap.size + 1), 0, none⟩ = some (.int .i64 x) := R8_w6.cell 0 rfl; have f8_w6_0 := R8_w6.free 0; have c8_w6_1 : w6.cell? ⟨(w1.heap.size + 1), 1, none⟩ = some (.int .i64 y) := R8_w6.cell 1 rfl; have f8_w6_1 := R8_w6.free 1; have l11_w6 := R11_w6.lt; have c11_w6_0 : w6.cell? ⟨w4.heap.size, 0, none⟩ = some (.int .i64 tx) := R11_w6.cell 0 rfl; have f11_w6_0 := R11_w6.free 0; have c11_w6_1 : w6.cell? ⟨w4.heap.size, 1, none⟩ = some (.int .i64 tz) := R11_w6.cell 1 rfl; have f11_w6_1 := R11_w6.free 1; have HU6 := Lib.hid (show Up w w6 from Up.call HU4.out hu6); clear HQ5; (try dsimp only))
  refine hK.out _ _ ?_ (fun hHeld => ?_)
  · exact R11_w6
  clear hK K
  (try simp only [Act.put, lga, lgz, lgs, lsa, lsz, lss])
  refine wpAnyH_take (i := 5) (v := ?_) rfl (by kernel_rfl) (by kernel_rfl) (by kernel_rfl) (fun _ _ _ h => h) (Or.inl ⟨by rfl, ?_⟩) (by assumption) ?_
  rotate_left
  · intro w2 hSw
    (try dsimp only at hSw)
    (try (obtain ⟨hs1, hs2, hs3⟩ := hSw))
    go_simp
    (try (with_reducible rfl))
  (try simp only [Act.put, lga, lgz, lgs, lsa, lsz, lss])
  refine wpAnyH_done (by kernel_rfl) ?_ _
  clear hHeld
  go_wp2_with (first
    | (refine wpList_load_Row rfl 74 (.tmp 7) rfl w1.heap.size rfl #[.int .i64 C.a, .int .i64 C.b, .int .i64 C.c, .int .i64 C.d, .int .i64 C.x, .int .i64 C.y, .int .i64 1, .int .i64 0, .int .i64 0, .int .i64 0, .int .i64 0, .int .i64 65536, .int .i64 0, .int .i64 0, .int .i64 655360, .slice none 0 0, .int .i64 0, .int .i64 F, .int .i64 FM.a, .int .i64 FM.b, .int .i64 FM.c, .int .i64 FM.d, .int .i64 FM.x, .int .i64 FM.y, .slice (some ⟨gc, 0, none⟩) 0 0, .bool false] _ (by first | with_reducible assumption | exact ra) Tryd.underlying74 rfl infoSt rfl ?_)
    | (go_at_call 36; ((with_reducible refine (item_bad C 65536 0 F FM _ _ _ false x y (.slice ba N bc) _ h4 h5 HME.out).mono ?_); rw [HC.out]; rintro E w8 ⟨rfl, hu8⟩; have z8 := hu8.size; (try simp at z8)))
    | ((refine wpList_store_Row rfl 86 (.tmp 13) _ rfl w8.heap.size #[.int .i64 0, .slice none 0 0, .int .i64 0, .int .i64 0, .int .i64 0, .int .i64 0, .int .i64 0, .slice none 0 0, .int .i64 0, .int .i64 0, .int .i64 0, .int .i64 0, .slice none 0 0, .int .i64 0, .int .i64 0, .int .i64 0, .int .i64 0, .int .i64 0, .int .i64 0, .int .i64 0, .int .i64 0, .slice none 0 0] rfl rfl #[.int .i64 0, .slice none 0 0, .int .i64 0, .int .i64 0, .int .i64 0, .int .i64 0, .int .i64 0, .slice none 0 0, .int .i64 0, .int .i64 0, .int .i64 0, .int .i64 0, .slice none 0 0, .int .i64 0, .int .i64 0, .int .i64 0, .int .i64 0, .int .i64 0, .int .i64 0, .int .i64 0, .int .i64 0, .slice none 0 0] (by exact ra) infoIt rfl rfl (by simp [Value.oneCell']) ?_); intro w9 hr9 hc9; have z9 := hc9.size; (try simp at z9); skip))
  go_ret
  exact ⟨rfl, Up.call HU6.out (show Chg [] w6 _ by (repeat' (first | (with_reducible first | exact Chg.refl _ _ | assumption | refine Chg.alloc ?_ _ | refine Chg.drew ?_ | refine Chg.drewN ?_ _ | refine Chg.setCell ?_ ?_ _ | refine Chg.upc ?_ (by assumption) | refine Chg.call ?_ (by assumption) ?_) | (refine Or.inl ?_; (simp; done)) | (simp; done) | (simp; omega) | omega))).up⟩

set_option maxRecDepth 8000 in
set_option maxHeartbeats 4000000 in
theorem show_good (g p c : Nat) (C : M6) (F : Int) (FM : M6) (dk : Bool) (n : Int) (pv v : Value) (T : St) (l : List Cl) (x y : Int) (ba : Option Addr) (bc N : Nat) (bs : List Int) (w : World) (h : Prg w g p c C F FM dk n pv v T l)
    (hN : bs.length = N) (hv : Ints .u8 w (.slice ba N bc) bs) (hl : N ≤ 65535) (hR : placeR F T = ((x, y), 0)) (bx bz tx tz : Int) (hB : farR F FM bs = ((bx, bz), 0)) (hM : movedR C x y bx bz = ((tx, tz), 0)) (hLK : lastK T.l = 1) (hTM : (T.move (tx, tz)).2 = 0) (h0 : 0 < N) (hd : dk = false) (h4 : (Lit.int .i64 C.x).wf = true) (h5 : (Lit.int .i64 C.y).wf = true) (mm : M6) (hC2 : (concat FM C).2 = 0) (hC1 : (concat FM C).1 = mm) (hln : l.length < 4096) (hF0 : 0 ≤ F) (hF1 : F < 14) (hT : Font.Tab w) (hfi : ((lM ⟨mm.a, mm.b, mm.c, mm.d, x, y⟩).any fun n => !fits n) = false) :
    Calls Tryd.prog 11 #[.pointer (some ⟨c, 0, none⟩), .pointer (some ⟨g, 0, none⟩), .slice ba N bc] w fun E w' => E = .returned (.int .i64 0) ∧ Shown w g p c C F FM dk n pv v l (T.move (tx, tz)).1 [⟨F, ⟨mm.a, mm.b, mm.c, mm.d, x, y⟩, bs⟩] w' := by
  have HH := Lib.hid h
  have HG := Lib.hid h.rg
  have HP := Lib.hid h.pa
  have HV := Lib.hid hv
  have HN := Lib.hid hN
  have HLP := Lib.hid h.pa.row.lt
  have HLV := Lib.hid (pv_lt h.pa)
  have HLC := Lib.hid h.cv.row.lt
  have HLO := Lib.hid (own_lt h.cv.its)
  clear h hv hN
  subst hd
  have HR := Lib.hid hR
  clear hR
  have HB := Lib.hid hB
  clear hB
  have HM := Lib.hid hM
  clear hM
  have HLK := Lib.hid hLK
  have HTM := Lib.hid hTM
  clear hLK hTM
  have tl : decide ((65535 : Int) < (N : Int)) = false := decide_eq_false (by omega)
  have t1 : decide ((0 : Int) < (N : Int)) = true := decide_eq_true (by omega)
  have t2 : decide (0 < N) = true := decide_eq_true (by omega)
  have HC2 := Lib.hid hC2
  have HC1 := Lib.hid hC1
  have HLN := Lib.hid hln
  have HT := Lib.hid hT
  have HFI := Lib.hid hfi
  clear hC2 hC1 hln hT hfi
  go_enter Tryd.func11, Tryd.ntmps11
  go_wp2_with (first
    | (go_at_call 33; ((with_reducible refine (ready_calls g C 65536 0 F FM false p 2 n pv T _ (HG.out.up (by exact ua)) (HP.out.up (by exact ua))).mono ?_); rw [HR.out]; rintro E w1 ⟨⟨gc, hg1, rfl⟩, hu1⟩; have z1 := hu1.size; (try simp at z1); have HU1 := Lib.hid (show Up w w1 by exact ua)))
    | ((refine wpList_store_Row rfl 74 (.tmp 7) _ rfl w1.heap.size #[.int .i64 C.a, .int .i64 C.b, .int .i64 C.c, .int .i64 C.d, .int .i64 C.x, .int .i64 C.y, .int .i64 1, .int .i64 0, .int .i64 0, .int .i64 0, .int .i64 0, .int .i64 65536, .int .i64 0, .int .i64 0, .int .i64 655360, .slice none 0 0, .int .i64 0, .int .i64 F, .int .i64 FM.a, .int .i64 FM.b, .int .i64 FM.c, .int .i64 FM.d, .int .i64 FM.x, .int .i64 FM.y, .slice (some ⟨gc, 0, none⟩) 0 0, .bool false] rfl rfl #[.int .i64 0, .int .i64 0, .int .i64 0, .int .i64 0, .int .i64 0, .int .i64 0, .int .i64 0, .int .i64 0, .int .i64 0, .int .i64 0, .int .i64 0, .int .i64 0, .int .i64 0, .int .i64 0, .int .i64 0, .slice none 0 0, .int .i64 0, .int .i64 0, .int .i64 0, .int .i64 0, .int .i64 0, .int .i64 0, .int .i64 0, .int .i64 0, .slice none 0 0, .bool false] (by exact ra) infoSt rfl rfl (by simp [Value.oneCell']) ?_); intro w2 hr2 hc2; have z2 := hc2.size; (try simp at z2); have R7_w2 := hr2; have RP2 : Row w2 (w1.heap.size + 1) #[.int .i64 0, .int .i64 0] := (by exact ra); have lp2 := RP2.lt; have p2_0 : w2.cell? ⟨w1.heap.size + 1, 0, none⟩ = some (.int .i64 0) := RP2.cell 0 rfl; have pf2_0 := RP2.free 0; have p2_1 : w2.cell? ⟨w1.heap.size + 1, 1, none⟩ = some (.int .i64 0) := RP2.cell 1 rfl; have pf2_1 := RP2.free 1)
    | (refine wpList_load_Row rfl 74 (.tmp 7) rfl w1.heap.size rfl #[.int .i64 C.a, .int .i64 C.b, .int .i64 C.c, .int .i64 C.d, .int .i64 C.x, .int .i64 C.y, .int .i64 1, .int .i64 0, .int .i64 0, .int .i64 0, .int .i64 0, .int .i64 65536, .int .i64 0, .int .i64 0, .int .i64 655360, .slice none 0 0, .int .i64 0, .int .i64 F, .int .i64 FM.a, .int .i64 FM.b, .int .i64 FM.c, .int .i64 FM.d, .int .i64 FM.x, .int .i64 FM.y, .slice (some ⟨gc, 0, none⟩) 0 0, .bool false] _ (by first | with_reducible assumption | exact ra) Tryd.underlying74 rfl infoSt rfl ?_)
    | (go_at_call 28; ((with_reducible refine (far_calls C 65536 0 F FM _ false (.slice ba N bc) bs _ (HV.out.up ((show Chg [] w _ from (by (repeat' (first | (with_reducible first | exact Chg.refl _ _ | assumption | refine Chg.alloc ?_ _ | refine Chg.drew ?_ | refine Chg.drewN ?_ _ | refine Chg.setCell ?_ ?_ _ | refine Chg.upc ?_ (by assumption) | refine Chg.call ?_ (by assumption) ?_) | (refine Or.inl ?_; (simp; done)) | (simp; done) | (simp; omega) | omega)))).up)) (by have := HN.out; omega)).mono ?_); rw [HB.out]; rintro E w3 ⟨rfl, hu3⟩; have z3 := hu3.size; (try simp at z3); have R7_w3 : Row w3 w1.heap.size #[.int .i64 C.a, .int .i64 C.b, .int .i64 C.c, .int .i64 C.d, .int .i64 C.x, .int .i64 C.y, .int .i64 1, .int .i64 0, .int .i64 0, .int .i64 0, .int .i64 0, .int .i64 65536, .int .i64 0, .int .i64 0, .int .i64 655360, .slice none 0 0, .int .i64 0, .int .i64 F, .int .i64 FM.a, .int .i64 FM.b, .int .i64 FM.c, .int .i64 FM.d, .int .i64 FM.x, .int .i64 FM.y, .slice (some ⟨gc, 0, none⟩) 0 0, .bool false] := Row.up (show Row _ w1.heap.size #[.int .i64 C.a, .int .i64 C.b, .int .i64 C.c, .int .i64 C.d, .int .i64 C.x, .int .i64 C.y, .int .i64 1, .int .i64 0, .int .i64 0, .int .i64 0, .int .i64 0, .int .i64 65536, .int .i64 0, .int .i64 0, .int .i64 655360, .slice none 0 0, .int .i64 0, .int .i64 F, .int .i64 FM.a, .int .i64 FM.b, .int .i64 FM.c, .int .i64 FM.d, .int .i64 FM.x, .int .i64 FM.y, .slice (some ⟨gc, 0, none⟩) 0 0, .bool false] from (by exact ra)) hu3; have l7_w3 := R7_w3.lt; have c7_w3_25 : w3.cell? ⟨w1.heap.size, 25, none⟩ = some (.bool false) := R7_w3.cell 25 rfl; have f7_w3_25 := R7_w3.free 25; have c7_w3_17 : w3.cell? ⟨w1.heap.size, 17, none⟩ = some (.int .i64 F) := R7_w3.cell 17 rfl; have f7_w3_17 := R7_w3.free 17; have R8_w3 : Row w3 (w1.heap.size + 1) #[.int .i64 x, .int .i64 y] := Row.up (show Row _ (w1.heap.size + 1) #[.int .i64 x, .int .i64 y] from (by exact ro)) hu3; have l8_w3 := R8_w3.lt; have c8_w3_0 : w3.cell? ⟨(w1.heap.size + 1), 0, none⟩ = some (.int .i64 x) := R8_w3.cell 0 rfl; have f8_w3_0 := R8_w3.free 0; have c8_w3_1 : w3.cell? ⟨(w1.heap.size + 1), 1, none⟩ = some (.int .i64 y) := R8_w3.cell 1 rfl; have f8_w3_1 := R8_w3.free 1; skip))
    | (go_at_call 34; ((with_reducible refine (moved_calls C 65536 0 F FM _ false x y bx bz _).mono ?_); rw [HM.out]; rintro E w4 ⟨rfl, hu4⟩; have z4 := hu4.size; (try simp at z4); have R7_w4 : Row w4 w1.heap.size #[.int .i64 C.a, .int .i64 C.b, .int .i64 C.c, .int .i64 C.d, .int .i64 C.x, .int .i64 C.y, .int .i64 1, .int .i64 0, .int .i64 0, .int .i64 0, .int .i64 0, .int .i64 65536, .int .i64 0, .int .i64 0, .int .i64 655360, .slice none 0 0, .int .i64 0, .int .i64 F, .int .i64 FM.a, .int .i64 FM.b, .int .i64 FM.c, .int .i64 FM.d, .int .i64 FM.x, .int .i64 FM.y, .slice (some ⟨gc, 0, none⟩) 0 0, .bool false] := Row.up (show Row _ w1.heap.size #[.int .i64 C.a, .int .i64 C.b, .int .i64 C.c, .int .i64 C.d, .int .i64 C.x, .int .i64 C.y, .int .i64 1, .int .i64 0, .int .i64 0, .int .i64 0, .int .i64 0, .int .i64 65536, .int .i64 0, .int .i64 0, .int .i64 655360, .slice none 0 0, .int .i64 0, .int .i64 F, .int .i64 FM.a, .int .i64 FM.b, .int .i64 FM.c, .int .i64 FM.d, .int .i64 FM.x, .int .i64 FM.y, .slice (some ⟨gc, 0, none⟩) 0 0, .bool false] from (by exact ra)) hu4; have l7_w4 := R7_w4.lt; have c7_w4_25 : w4.cell? ⟨w1.heap.size, 25, none⟩ = some (.bool false) := R7_w4.cell 25 rfl; have f7_w4_25 := R7_w4.free 25; have c7_w4_17 : w4.cell? ⟨w1.heap.size, 17, none⟩ = some (.int .i64 F) := R7_w4.cell 17 rfl; have f7_w4_17 := R7_w4.free 17; have R8_w4 : Row w4 (w1.heap.size + 1) #[.int .i64 x, .int .i64 y] := Row.up (show Row _ (w1.heap.size + 1) #[.int .i64 x, .int .i64 y] from (by exact ra)) hu4; have l8_w4 := R8_w4.lt; have c8_w4_0 : w4.cell? ⟨(w1.heap.size + 1), 0, none⟩ = some (.int .i64 x) := R8_w4.cell 0 rfl; have f8_w4_0 := R8_w4.free 0; have c8_w4_1 : w4.cell? ⟨(w1.heap.size + 1), 1, none⟩ = some (.int .i64 y) := R8_w4.cell 1 rfl; have f8_w4_1 := R8_w4.free 1; have R10_w4 : Row w4 w3.heap.size #[.int .i64 bx, .int .i64 bz] := Row.up (show Row _ w3.heap.size #[.int .i64 bx, .int .i64 bz] from (by exact ro)) hu4; have l10_w4 := R10_w4.lt; have c10_w4_0 : w4.cell? ⟨w3.heap.size, 0, none⟩ = some (.int .i64 bx) := R10_w4.cell 0 rfl; have f10_w4_0 := R10_w4.free 0; have c10_w4_1 : w4.cell? ⟨w3.heap.size, 1, none⟩ = some (.int .i64 bz) := R10_w4.cell 1 rfl; have f10_w4_1 := R10_w4.free 1; have HU4 := Lib.hid (show Up w w4 from (show Chg [] w w4 by (repeat' (first | (with_reducible first | exact Chg.refl _ _ | assumption | refine Chg.alloc ?_ _ | refine Chg.drew ?_ | refine Chg.drewN ?_ _ | refine Chg.setCell ?_ ?_ _ | refine Chg.upc ?_ (by assumption) | refine Chg.call ?_ (by assumption) ?_) | (refine Or.inl ?_; (simp; done)) | (simp; done) | (simp; omega) | omega))).up))))
  refine wp_region_held_drew (S := fun w' => Row w' w4.heap.size #[.int .i64 tx, .int .i64 tz]) (by kernel_rfl) ?_ (fun hHeld => ?_)
  · exact Row.drew (show Row _ w4.heap.size #[.int .i64 tx, .int .i64 tz] from (by exact ro))
  refine wpAnyH_take (i := 0) (v := ?_) rfl (by kernel_rfl) (by kernel_rfl) (by kernel_rfl) (fun _ _ _ h => h) (Or.inl ⟨by rfl, ?_⟩) (by assumption) ?_
  rotate_left
  · intro w2 hSw
    (try dsimp only at hSw)
    (try (obtain ⟨hs1, hs2, hs3⟩ := hSw))
    go_simp
    (try (with_reducible rfl))
  (try simp only [Act.put, lga, lgz, lgs, lsa, lsz, lss])
  refine wpAnyH_take (i := 3) rfl (by kernel_rfl) (by kernel_rfl) (by kernel_rfl) (fun _ _ _ h => h) (yieldsIf_load_mid (by rfl) 24 (.tmp 11) rfl w4.heap.size 0 rfl #[.int .i64 tx, .int .i64 tz].toList _ (fun _ h => rng0 h) Tryd.underlying24 rfl (by exact infoP)) (by assumption) ?_
  (try simp only [Act.put, lga, lgz, lgs, lsa, lsz, lss])
  refine wpAnyH_ready (rs := [1]) (by decide +kernel) (by simp) ?_
  refine AllReadyH.cons rfl (fun K hK => ?_) (AllReadyH.nil)
  (try simp only [lga, lgz, lgs])
  (go_simp; go_at_call 16; (with_reducible refine (path_calls g p _ ((HG.out.up (show Up w _ from (show Chg [] w _ by (repeat' (first | (with_reducible first | exact Chg.refl _ _ | assumption | refine Chg.alloc ?_ _ | refine Chg.drew ?_ | refine Chg.drewN ?_ _ | refine Chg.setCell ?_ ?_ _ | refine Chg.upc ?_ (by assumption) | refine Chg.call ?_ (by assumption) ?_) | (refine Or.inl ?_; (simp; done)) | (simp; done) | (simp; omega) | omega))).up)).cell 26 rfl)).mono ?_); rintro E wx ⟨rfl, rfl⟩; (try dsimp only))
  refine hK.out _ _ ?_ (fun hHeld => ?_)
  · exact hHeld
  clear hK K
  (try simp only [Act.put, lga, lgz, lgs, lsa, lsz, lss])
  refine wpAnyH_ready (rs := [2]) (by decide +kernel) (by simp) ?_
  refine AllReadyH.cons rfl (fun K hK => ?_) (AllReadyH.nil)
  (try simp only [lga, lgz, lgs])
  (go_simp; go_at_call 35; (with_reducible refine (Path.copy_calls p pv T _ (HP.out.up (show Up w _ from (show Chg [] w _ by (repeat' (first | (with_reducible first | exact Chg.refl _ _ | assumption | refine Chg.alloc ?_ _ | refine Chg.drew ?_ | refine Chg.drewN ?_ _ | refine Chg.setCell ?_ ?_ _ | refine Chg.upc ?_ (by assumption) | refine Chg.call ?_ (by assumption) ?_) | (refine Or.inl ?_; (simp; done)) | (simp; done) | (simp; omega) | omega))).up))).mono ?_); rintro E w5 ⟨p5, pv5, rfl, hp5, hq5, hu5, ho5⟩; have z5 := hu5.size; (try simp at z5); (try simp at hp5); (try simp at ho5); have HQ5 := Lib.hid hq5; clear hq5; have R7_w5 : Row w5 w1.heap.size #[.int .i64 C.a, .int .i64 C.b, .int .i64 C.c, .int .i64 C.d, .int .i64 C.x, .int .i64 C.y, .int .i64 1, .int .i64 0, .int .i64 0, .int .i64 0, .int .i64 0, .int .i64 65536, .int .i64 0, .int .i64 0, .int .i64 655360, .slice none 0 0, .int .i64 0, .int .i64 F, .int .i64 FM.a, .int .i64 FM.b, .int .i64 FM.c, .int .i64 FM.d, .int .i64 FM.x, .int .i64 FM.y, .slice (some ⟨gc, 0, none⟩) 0 0, .bool false] := Row.up (show Row _ w1.heap.size #[.int .i64 C.a, .int .i64 C.b, .int .i64 C.c, .int .i64 C.d, .int .i64 C.x, .int .i64 C.y, .int .i64 1, .int .i64 0, .int .i64 0, .int .i64 0, .int .i64 0, .int .i64 65536, .int .i64 0, .int .i64 0, .int .i64 655360, .slice none 0 0, .int .i64 0, .int .i64 F, .int .i64 FM.a, .int .i64 FM.b, .int .i64 FM.c, .int .i64 FM.d, .int .i64 FM.x, .int .i64 FM.y, .slice (some ⟨gc, 0, none⟩) 0 0, .bool false] from (by exact ra)) hu5; have l7_w5 := R7_w5.lt; have c7_w5_25 : w5.cell? ⟨w1.heap.size, 25, none⟩ = some (.bool false) := R7_w5.cell 25 rfl; have f7_w5_25 := R7_w5.free 25; have c7_w5_17 : w5.cell? ⟨w1.heap.size, 17, none⟩ = some (.int .i64 F) := R7_w5.cell 17 rfl; have f7_w5_17 := R7_w5.free 17; have R8_w5 : Row w5 (w1.heap.size + 1) #[.int .i64 x, .int .i64 y] := Row.up (show Row _ (w1.heap.size + 1) #[.int .i64 x, .int .i64 y] from (by exact ra)) hu5; have l8_w5 := R8_w5.lt; have c8_w5_0 : w5.cell? ⟨(w1.heap.size + 1), 0, none⟩ = some (.int .i64 x) := R8_w5.cell 0 rfl; have f8_w5_0 := R8_w5.free 0; have c8_w5_1 : w5.cell? ⟨(w1.heap.size + 1), 1, none⟩ = some (.int .i64 y) := R8_w5.cell 1 rfl; have f8_w5_1 := R8_w5.free 1; have R11_w5 : Row w5 w4.heap.size #[.int .i64 tx, .int .i64 tz] := Row.up (show Row _ w4.heap.size #[.int .i64 tx, .int .i64 tz] from (by exact ro)) hu5; have l11_w5 := R11_w5.lt; have c11_w5_0 : w5.cell? ⟨w4.heap.size, 0, none⟩ = some (.int .i64 tx) := R11_w5.cell 0 rfl; have f11_w5_0 := R11_w5.free 0; have c11_w5_1 : w5.cell? ⟨w4.heap.size, 1, none⟩ = some (.int .i64 tz) := R11_w5.cell 1 rfl; have f11_w5_1 := R11_w5.free 1; (try dsimp only))
  refine hK.out _ _ ?_ (fun hHeld => ?_)
  · exact R11_w5
  clear hK K
  (try simp only [Act.put, lga, lgz, lgs, lsa, lsz, lss])
  refine wpAnyH_ready (rs := [4]) (by decide +kernel) (by simp) ?_
  refine AllReadyH.cons rfl (fun K hK => ?_) (AllReadyH.nil)
  (try simp only [lga, lgz, lgs])
  (go_simp; go_at_call 25; (with_reducible refine (Path.move_onto p5 pv5 T tx tz _ HQ5.out HLK.out).mono ?_); rw [HTM.out]; rintro E w6 ⟨rfl, hl6⟩; (obtain ⟨pv6, -, hc6, -⟩ := hl6); have hu6 : Up w4 w6 := ((show Chg [] w4 w5 by (repeat' (first | (with_reducible first | exact Chg.refl _ _ | assumption | refine Chg.alloc ?_ _ | refine Chg.drew ?_ | refine Chg.drewN ?_ _ | refine Chg.setCell ?_ ?_ _ | refine Chg.upc ?_ (by assumption) | refine Chg.call ?_ (by assumption) ?_) | (refine Or.inl ?_; (simp; done)) | (simp; done) | (simp; omega) | omega))).call hc6 (fun k hk => Or.inr (by rcases List.mem_cons.1 hk with h1 | h1; (omega); (have := ho5 k (Path.own_of h1); omega)))).up; have z6 := hu6.size; have R7_w6 := R7_w4.up hu6; have R8_w6 := R8_w4.up hu6; have R11_w6 : Row w6 w4.heap.size #[.int .i64 tx, .int .i64 tz] := R11_w5.chg hc6 (fun hk => by rcases List.mem_cons.1 hk with h1 | h1; (omega); (have := ho5 _ (Path.own_of h1); omega)); have l7_w6 := R7_w6.lt; have c7_w6_25 : w6.cell? ⟨w1.heap.size, 25, none⟩ = some (.bool false) := R7_w6.cell 25 rfl; have f7_w6_25 := R7_w6.free 25; have c7_w6_17 : w6.cell? ⟨w1.heap.size, 17, none⟩ = some (.int .i64 F) := R7_w6.cell 17 rfl; have f7_w6_17 := R7_w6.free 17; have l8_w6 := R8_w6.lt; have c8_w6_0 : w6.cell? ⟨(w1.heap.size + 1), 0, none⟩ = some (.int .i64 x) := R8_w6.cell 0 rfl; have f8_w6_0 := R8_w6.free 0; have c8_w6_1 : w6.cell? ⟨(w1.heap.size + 1), 1, none⟩ = some (.int .i64 y) := R8_w6.cell 1 rfl; have f8_w6_1 := R8_w6.free 1; have l11_w6 := R11_w6.lt; have c11_w6_0 : w6.cell? ⟨w4.heap.size, 0, none⟩ = some (.int .i64 tx) := R11_w6.cell 0 rfl; have f11_w6_0 := R11_w6.free 0; have c11_w6_1 : w6.cell? ⟨w4.heap.size, 1, none⟩ = some (.int .i64 tz) := R11_w6.cell 1 rfl; have f11_w6_1 := R11_w6.free 1; have HU6 := Lib.hid (show Up w w6 from Up.call HU4.out hu6); clear HQ5; (try dsimp only))
  refine hK.out _ _ ?_ (fun hHeld => ?_)
  · exact R11_w6
  clear hK K
  (try simp only [Act.put, lga, lgz, lgs, lsa, lsz, lss])
  refine wpAnyH_take (i := 5) (v := ?_) rfl (by kernel_rfl) (by kernel_rfl) (by kernel_rfl) (fun _ _ _ h => h) (Or.inl ⟨by rfl, ?_⟩) (by assumption) ?_
  rotate_left
  · intro w2 hSw
    (try dsimp only at hSw)
    (try (obtain ⟨hs1, hs2, hs3⟩ := hSw))
    go_simp
    (try (with_reducible rfl))
  (try simp only [Act.put, lga, lgz, lgs, lsa, lsz, lss])
  refine wpAnyH_done (by kernel_rfl) ?_ _
  clear hHeld
  go_wp2_with (first
    | (refine wpList_load_Row rfl 74 (.tmp 7) rfl w1.heap.size rfl #[.int .i64 C.a, .int .i64 C.b, .int .i64 C.c, .int .i64 C.d, .int .i64 C.x, .int .i64 C.y, .int .i64 1, .int .i64 0, .int .i64 0, .int .i64 0, .int .i64 0, .int .i64 65536, .int .i64 0, .int .i64 0, .int .i64 655360, .slice none 0 0, .int .i64 0, .int .i64 F, .int .i64 FM.a, .int .i64 FM.b, .int .i64 FM.c, .int .i64 FM.d, .int .i64 FM.x, .int .i64 FM.y, .slice (some ⟨gc, 0, none⟩) 0 0, .bool false] _ (by first | with_reducible assumption | exact ra) Tryd.underlying74 rfl infoSt rfl ?_)
    | (go_at_call 36; ((with_reducible refine (item_good C 65536 0 F FM _ _ _ false x y (.slice ba N bc) bs _ h4 h5 HC2.out (HV.out.up (Up.call HU6.out (by exact ua))) (by have := HN.out; omega) mm HC1.out).mono ?_); rintro E w8 ⟨⟨va, vcc, rfl, hvb8⟩, hu8⟩; have z8 := hu8.size; (try simp at z8); have HVB := Lib.hid hvb8; clear hvb8; have R11_w8 : Row w8 w4.heap.size #[.int .i64 tx, .int .i64 tz] := Row.up (show Row _ w4.heap.size #[.int .i64 tx, .int .i64 tz] by exact ra) hu8; have HU8 := Lib.hid (show Up w w8 from Up.call HU6.out (by exact ua))))
    | ((refine wpList_store_Row rfl 86 (.tmp 13) _ rfl w8.heap.size #[.int .i64 4, .slice none 0 0, .int .i64 1, .int .i64 0, .int .i64 0, .int .i64 0, .int .i64 0, .slice (some ⟨gc, 0, none⟩) 0 0, .int .i64 0, .int .i64 0, .int .i64 0, .int .i64 0, .slice none 0 0, .int .i64 0, .int .i64 F, .int .i64 mm.a, .int .i64 mm.b, .int .i64 mm.c, .int .i64 mm.d, .int .i64 x, .int .i64 y, .slice va bs.length vcc] rfl rfl #[.int .i64 0, .slice none 0 0, .int .i64 0, .int .i64 0, .int .i64 0, .int .i64 0, .int .i64 0, .slice none 0 0, .int .i64 0, .int .i64 0, .int .i64 0, .int .i64 0, .slice none 0 0, .int .i64 0, .int .i64 0, .int .i64 0, .int .i64 0, .int .i64 0, .int .i64 0, .int .i64 0, .int .i64 0, .slice none 0 0] (by exact ra) infoIt rfl rfl (by simp [Value.oneCell']) ?_); intro w9 hr9 hc9; have z9 := hc9.size; (try simp at z9); have HU9 := Lib.hid (show Up w w9 from Up.call HU8.out (show Chg [] w8 w9 by (repeat' (first | (with_reducible first | exact Chg.refl _ _ | assumption | refine Chg.alloc ?_ _ | refine Chg.drew ?_ | refine Chg.drewN ?_ _ | refine Chg.setCell ?_ ?_ _ | refine Chg.upc ?_ (by assumption) | refine Chg.call ?_ (by assumption) ?_) | (refine Or.inl ?_; (simp; done)) | (simp; done) | (simp; omega) | omega))).up); have R13_w9 := hr9; have R11_w9 : Row w9 w4.heap.size #[.int .i64 tx, .int .i64 tz] := (by exact ra); have HV9 := Lib.hid (show Ints .u8 w9 (.slice va bs.length vcc) bs from HVB.out.up (show Chg [] w8 w9 by (repeat' (first | (with_reducible first | exact Chg.refl _ _ | assumption | refine Chg.alloc ?_ _ | refine Chg.drew ?_ | refine Chg.drewN ?_ _ | refine Chg.setCell ?_ ?_ _ | refine Chg.upc ?_ (by assumption) | refine Chg.call ?_ (by assumption) ?_) | (refine Or.inl ?_; (simp; done)) | (simp; done) | (simp; omega) | omega))).up); clear HVB)
    | (refine wpList_load_Row rfl 86 (.tmp 13) rfl w8.heap.size rfl #[.int .i64 4, .slice none 0 0, .int .i64 1, .int .i64 0, .int .i64 0, .int .i64 0, .int .i64 0, .slice (some ⟨gc, 0, none⟩) 0 0, .int .i64 0, .int .i64 0, .int .i64 0, .int .i64 0, .slice none 0 0, .int .i64 0, .int .i64 F, .int .i64 mm.a, .int .i64 mm.b, .int .i64 mm.c, .int .i64 mm.d, .int .i64 x, .int .i64 y, .slice va bs.length vcc] _ (by first | with_reducible assumption | exact ra) Tryd.underlying86 rfl infoIt rfl ?_)
    | (go_at_call 37; ((with_reducible refine (addL_calls c v l F ⟨mm.a, mm.b, mm.c, mm.d, x, y⟩ (some ⟨gc, 0, none⟩) 0 va vcc bs _ (HH.out.up HU9.out).cv HH.out.lb HLN.out HV9.out (by have := HN.out; omega) (by have := HN.out; omega) hF0 hF1 (HT.out.up HU9.out) HFI.out).mono ?_); rintro E w10 ⟨rfl, hl10⟩; have HL10 := Lib.hid hl10; clear hl10)))
  obtain ⟨v10, k10, -, hP10, hc10, -, -⟩ := (HH.out.up HU9.out).lay (it := ⟨F, ⟨mm.a, mm.b, mm.c, mm.d, x, y⟩, bs⟩) (by have := HN.out; show 0 < bs.length; omega) HL10.out
  have HP10 := Lib.hid hP10
  have R11_w10 : Row w10 w4.heap.size #[.int .i64 tx, .int .i64 tz] := R11_w9.chg hc10 (fun hk => by
    have h1 := HU4.out.size
    rcases List.mem_cons.1 hk with h2 | h2
    · have := HLC.out; omega
    · have := HLO.out _ h2; omega)
  clear hP10 hc10
  refine wp_region_held_drew (S := fun w' => Row w' w4.heap.size #[.int .i64 tx, .int .i64 tz]) (by kernel_rfl) ?_ (fun hHeld => ?_)
  · exact Row.drew R11_w10
  refine wpAnyH_take (i := 0) (v := ?_) rfl (by kernel_rfl) (by kernel_rfl) (by kernel_rfl) (fun _ _ _ h => h) (Or.inl ⟨by rfl, ?_⟩) (by assumption) ?_
  rotate_left
  · intro w2 hSw
    (try dsimp only at hSw)
    (try (obtain ⟨hs1, hs2, hs3⟩ := hSw))
    go_simp
    (try (with_reducible rfl))
  (try simp only [Act.put, lga, lgz, lgs, lsa, lsz, lss])
  refine wpAnyH_take (i := 2) rfl (by kernel_rfl) (by kernel_rfl) (by kernel_rfl) (fun _ _ _ h => h) (yieldsIf_load_mid (by rfl) 24 (.tmp 11) rfl w4.heap.size 0 rfl #[.int .i64 tx, .int .i64 tz].toList _ (fun _ h => rng0 h) Tryd.underlying24 rfl (by exact infoP)) (by assumption) ?_
  (try simp only [Act.put, lga, lgz, lgs, lsa, lsz, lss])
  refine wpAnyH_ready (rs := [1]) (by decide +kernel) (by simp) ?_
  refine AllReadyH.cons rfl (fun K hK => ?_) (AllReadyH.nil)
  (try simp only [lga, lgz, lgs])
  (go_simp; go_at_call 16; (with_reducible refine (path_calls g p _ (Row.cell (show Row _ g (gsC C 65536 (.slice none 0 0) 0 F FM false p 2 n) from Row.drew HP10.out.rg) 26 rfl)).mono ?_); rintro E wx ⟨rfl, rfl⟩; (try dsimp only))
  refine hK.out _ _ ?_ (fun hHeld => ?_)
  · exact hHeld
  clear hK K
  (try simp only [Act.put, lga, lgz, lgs, lsa, lsz, lss])
  refine wpAnyH_ready (rs := [3]) (by decide +kernel) (by simp) ?_
  refine AllReadyH.cons rfl (fun K hK => ?_) (AllReadyH.nil)
  (try simp only [lga, lgz, lgs])
  (go_simp; go_at_call 25; (with_reducible refine (Path.move_onto p pv T tx tz _ (Path.PathIs.up (w := w10) HP10.out.pa (Up.drew (Up.refl _))) HLK.out).mono ?_); rw [HTM.out]; rintro E w7 ⟨rfl, hl7⟩; have HL7 := Lib.hid (Path.Left.of_up (show Up w10 _ from Up.drew (Up.refl _)) hl7); (try dsimp only))
  refine hK.out _ _ ?_ (fun hHeld => ?_)
  · exact (let ⟨_, _, hc7, _⟩ := hl7; Row.chg hHeld hc7 (fun hk => by rcases List.mem_cons.1 hk with h1 | h1; (have := HLP.out; omega); (have := HLV.out _ h1; omega)))
  clear hK K
  (try simp only [Act.put, lga, lgz, lgs, lsa, lsz, lss])
  refine wpAnyH_take (i := 4) (v := ?_) rfl (by kernel_rfl) (by kernel_rfl) (by kernel_rfl) (fun _ _ _ h => h) (Or.inl ⟨by rfl, ?_⟩) (by assumption) ?_
  rotate_left
  · intro w2 hSw
    (try dsimp only at hSw)
    (try (obtain ⟨hs1, hs2, hs3⟩ := hSw))
    go_simp
    (try (with_reducible rfl))
  (try simp only [Act.put, lga, lgz, lgs, lsa, lsz, lss])
  refine wpAnyH_done (by kernel_rfl) ?_ _
  clear hHeld
  go_wp2
  go_ret
  exact ⟨rfl, Shown.of_up HU9.out (Shown.both (HH.out.up HU9.out) (by have := HN.out; show 0 < bs.length; omega) HL10.out (fun _ _ _ _ _ => HL7.out))⟩

end Go.Proofs.YtjdbefpfjhdmoaaDoor.Sh
