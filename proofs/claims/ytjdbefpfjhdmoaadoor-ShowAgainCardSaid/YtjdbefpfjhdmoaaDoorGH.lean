/- show.on at a place. No condition. show.Spaced at a place. Its conditions: the fonts' names lie as they are laid; few bytes, room on the page. show.Spaced without a font or a place. No condition. What Spaced leaves of program and reference together. Its conditions: the fonts' names lie as they are laid; few bytes, room on the page. ShowAgain: the plain law (without distances Spaced is Show of one byte after the other), and two programs side by side in memory. No condition. ShowAgain, walked. Its condition: the fonts' names lie as they are laid. -/
import Derived.Test.YtjdbefpfjhdmoaaDoorGB
import Derived.Test.YtjdbefpfjhdmoaaDoorGA
import Derived.Test.YtjdbefpfjhdmoaaDoorGE
import Derived.Test.YtjdbefpfjhdmoaaDoorGJ
namespace Go.Proofs.YtjdbefpfjhdmoaaDoor.ZGH
open Go.ChangeShapes Go.WideShapes Go.ChangeAt Go.RowKit
theorem ra {w : World} {b : Nat} {cs : Array Value} (h : Row w b cs := by (repeat' (with_reducible first | assumption | (refine Row.at _ _ ?_; (simp; done)) | refine Row.alloc ?_ _ | refine Row.drew ?_ | refine Row.drewN ?_ _ | refine Row.other ?_ (by first | (simp; done) | (simp; omega) | omega) _ | refine Row.up ?_ (by assumption) | refine Row.chg ?_ (by assumption) (by first | (simp; done) | (simp; omega))))) : Row w b cs := h
theorem ua {w v : World} (h : Up w v := by (repeat' (first | (with_reducible first | exact Up.refl _ | assumption | refine Up.alloc ?_ _ | refine Up.drew ?_ | refine Up.drewN ?_ _ | refine Up.setCell ?_ ?_ _ | refine Up.call ?_ (by assumption)) | go_size))) : Up w v := h
theorem ro {w : World} {b : Nat} {cs : Array Value} (h : Row w b cs := by apply cast; (case h => (repeat (first | (with_reducible first | assumption | (apply Row.at; (simp; done)) | apply Row.alloc | apply Row.drew | apply Row.drewN | apply Row.set) | ((with_reducible apply Row.other); (case hp => first | (simp; done) | (simp; omega) | omega))))); (case e => rfl)) : Row w b cs := h
end Go.Proofs.YtjdbefpfjhdmoaaDoor.ZGH
section
namespace Go.Proofs.YtjdbefpfjhdmoaaDoor.Sh
open List renaming getElem_toArray → lga, getElem_cons_zero → lgz, getElem_cons_succ → lgs, setIfInBounds_toArray → lsa, set_cons_zero → lsz, set_cons_succ → lss
open Go.Proofs.YtjdbefpfjhdmoaaDoor.ZGH
open Go.ChangeShapes Go.WideShapes Go.ChangeAt Go.RowKit
open Go.Proofs.YtjdbefpfjhdmoaaDoor.Gs
open Go.Proofs.YtjdbefpfjhdmoaaDoor.MatM (M6)
open Go.Proofs.YtjdbefpfjhdmoaaDoor.PathM
set_option linter.unusedVariables false
set_option linter.unusedSimpArgs false

theorem now_callsL (b : Nat) (c : M6) (wd ph fn : Int) (fm : M6) (dk : Bool) (p : Nat) (most segs : Int) (w : World) (h : Row w b (gsC c wd (.slice none 0 0) ph fn fm dk p most segs)) :
    Calls Tryd.prog 27 #[.pointer (some ⟨b, 0, none⟩)] w fun E w' => (∃ gc, E = .returned (.agg #[.int .i64 c.a, .int .i64 c.b, .int .i64 c.c, .int .i64 c.d, .int .i64 c.x, .int .i64 c.y, .int .i64 1, .int .i64 0, .int .i64 0, .int .i64 0, .int .i64 0, .int .i64 wd, .int .i64 0, .int .i64 0, .int .i64 655360, .slice none 0 0, .int .i64 ph, .int .i64 fn, .int .i64 fm.a, .int .i64 fm.b, .int .i64 fm.c, .int .i64 fm.d, .int .i64 fm.x, .int .i64 fm.y, .slice (some ⟨gc, 0, none⟩) 0 0, .bool dk])) ∧ Up w w' :=
  (now_calls b c wd ph fn fm dk p most segs w h).mono (by
    rintro E w' ⟨⟨gc, _, _, rfl⟩, hu⟩
    exact ⟨⟨gc, rfl⟩, hu⟩)
theorem s4_of {w : World} {a b : Nat} {x y bx bz : Int} (h : Row w a #[.int .i64 x, .int .i64 y]) (h2 : Row w b #[.int .i64 bx, .int .i64 bz]) : w.cell? ⟨a, 0, none⟩ = some (.int .i64 x) ∧ w.cell? ⟨a, 1, none⟩ = some (.int .i64 y) ∧ w.cell? ⟨b, 0, none⟩ = some (.int .i64 bx) ∧ w.cell? ⟨b, 1, none⟩ = some (.int .i64 bz) := ⟨h.cell 0 rfl, h.cell 1 rfl, h2.cell 0 rfl, h2.cell 1 rfl⟩

set_option maxRecDepth 8000 in
set_option maxHeartbeats 4000000 in
theorem on_bad (g p : Nat) (C : M6) (F : Int) (FM : M6) (dk : Bool) (n : Int) (pv : Value) (T : St) (x y bx bz tx tz : Int) (w : World) (hg : Row w g (gsC C 65536 (.slice none 0 0) 0 F FM dk p 2 n)) (hp : Path.PathIs w p pv T) (hcu : Path.St.cur T = ((x, y), 0)) (e : Int) (hM : movedR C x y bx bz = ((tx, tz), e)) (he : e ≠ 0) :
    Calls Tryd.prog 38 #[.pointer (some ⟨g, 0, none⟩), .agg #[.int .i64 bx, .int .i64 bz]] w fun E w' => E = .returned (.int .i64 e) ∧ Up w w' := by
  have HG := Lib.hid hg
  have HP := Lib.hid hp
  have HCU := Lib.hid hcu
  have HLP := Lib.hid hp.row.lt
  have HLV := Lib.hid (pv_lt hp)
  have HM := Lib.hid hM
  have t0 : (e == 0) = false := by simpa using he
  clear hM he
  clear hg hp hcu
  go_enter Tryd.func38, Tryd.ntmps38
  go_wp2_with (first
    | (go_at_call 16; ((with_reducible refine (path_calls g p _ ((HG.out.up (show Chg [] w _ from (by (repeat' (first | (with_reducible first | exact Chg.refl _ _ | assumption | refine Chg.alloc ?_ _ | refine Chg.drew ?_ | refine Chg.drewN ?_ _ | refine Chg.setCell ?_ ?_ _ | refine Chg.upc ?_ (by assumption) | refine Chg.call ?_ (by assumption) ?_) | (refine Or.inl ?_; (simp; done)) | (simp; done) | (simp; omega) | omega)))).up).cell 26 rfl)).mono ?_); rintro E w90 ⟨rfl, rfl⟩))
    | (go_at_call 59; ((with_reducible refine (Path.current_calls p pv T _ (HP.out.up (show Chg [] w _ from (by (repeat' (first | (with_reducible first | exact Chg.refl _ _ | assumption | refine Chg.alloc ?_ _ | refine Chg.drew ?_ | refine Chg.drewN ?_ _ | refine Chg.setCell ?_ ?_ _ | refine Chg.upc ?_ (by assumption) | refine Chg.call ?_ (by assumption) ?_) | (refine Or.inl ?_; (simp; done)) | (simp; done) | (simp; omega) | omega)))).up)).mono ?_); rw [HCU.out]; rintro E w1 ⟨rfl, hu1⟩; have z1 := hu1.size; (try simp at z1); have R3_w1 : Row w1 w.heap.size #[.int .i64 bx, .int .i64 bz] := Row.up (show Row _ w.heap.size #[.int .i64 bx, .int .i64 bz] from (by exact ra)) hu1)))
  refine wp_region_held_drew (S := fun w' => w'.cell? ⟨w1.heap.size, 0, none⟩ = some (.int .i64 x) ∧ w'.cell? ⟨w1.heap.size, 1, none⟩ = some (.int .i64 y) ∧ w'.cell? ⟨w.heap.size, 0, none⟩ = some (.int .i64 bx) ∧ w'.cell? ⟨w.heap.size, 1, none⟩ = some (.int .i64 bz)) (by kernel_rfl) ?_ (fun hHeld => ?_)
  · exact s4_of (show Row _ w1.heap.size #[.int .i64 x, .int .i64 y] from (by exact ra)) (show Row _ w.heap.size #[.int .i64 bx, .int .i64 bz] from (by exact ra))
  refine wpAnyH_take (i := 0) (v := ?_) rfl (by kernel_rfl) (by kernel_rfl) (by kernel_rfl) (fun _ _ _ h => h) (Or.inl ⟨by rfl, ?_⟩) (by assumption) ?_
  rotate_left
  · intro w2 hSw
    (try dsimp only at hSw)
    (try (obtain ⟨s0, s1, s2, s3⟩ := hSw))
    go_simp
    (try (with_reducible rfl))
  (try simp only [Act.put, lga, lgz, lgs, lsa, lsz, lss])
  refine wpAnyH_take (i := 2) (v := ?_) rfl (by kernel_rfl) (by kernel_rfl) (by kernel_rfl) (fun _ _ _ h => h) (Or.inl ⟨by rfl, ?_⟩) (by assumption) ?_
  rotate_left
  · intro w2 hSw
    (try dsimp only at hSw)
    (try (obtain ⟨s0, s1, s2, s3⟩ := hSw))
    go_simp
    (try (with_reducible rfl))
  (try simp only [Act.put, lga, lgz, lgs, lsa, lsz, lss])
  refine wpAnyH_take (i := 3) (v := ?_) rfl (by kernel_rfl) (by kernel_rfl) (by kernel_rfl) (fun _ _ _ h => h) (Or.inl ⟨by rfl, ?_⟩) (by assumption) ?_
  rotate_left
  · intro w2 hSw
    (try dsimp only at hSw)
    (try (obtain ⟨s0, s1, s2, s3⟩ := hSw))
    go_simp
    (try (with_reducible rfl))
  (try simp only [Act.put, lga, lgz, lgs, lsa, lsz, lss])
  refine wpAnyH_ready (rs := [1, 8]) (by decide +kernel) (by simp) ?_
  refine AllReadyH.cons rfl (fun K hK => ?_) (AllReadyH.cons rfl (fun K hK => ?_) (AllReadyH.nil))
  · skip
    (try simp only [lga, lgz, lgs])
    (go_simp; go_at_call 27; (with_reducible refine (now_callsL g C 65536 0 F FM dk p 2 n _ (HG.out.up (show Chg [] w _ from (by (repeat' (first | (with_reducible first | exact Chg.refl _ _ | assumption | refine Chg.alloc ?_ _ | refine Chg.drew ?_ | refine Chg.drewN ?_ _ | refine Chg.setCell ?_ ?_ _ | refine Chg.upc ?_ (by assumption) | refine Chg.call ?_ (by assumption) ?_) | (refine Or.inl ?_; (simp; done)) | (simp; done) | (simp; omega) | omega)))).up)).mono ?_); rintro E w2 ⟨⟨gc, rfl⟩, hu2⟩; have z2 := hu2.size; (try simp at z2); have R5_w2 : Row w2 w1.heap.size #[.int .i64 x, .int .i64 y] := Row.up (show Row _ w1.heap.size #[.int .i64 x, .int .i64 y] from (by exact ra)) hu2; have R3_w2 : Row w2 w.heap.size #[.int .i64 bx, .int .i64 bz] := Row.up (show Row _ w.heap.size #[.int .i64 bx, .int .i64 bz] from (by exact ra)) hu2; (try dsimp only))
    refine hK.out _ _ ?_ (fun hHeld => ?_)
    · exact s4_of R5_w2 R3_w2
    clear hK K
    (try simp only [Act.put, lga, lgz, lgs, lsa, lsz, lss])
    refine wpAnyH_ready (rs := [4, 8]) (by decide +kernel) (by simp) ?_
    refine AllReadyH.cons rfl (fun K hK => ?_) (AllReadyH.cons rfl (fun K hK => ?_) (AllReadyH.nil))
    · skip
      (try simp only [lga, lgz, lgs])
      (go_simp; go_at_call 34; (with_reducible refine (moved_calls C 65536 0 F FM _ dk x y bx bz _).mono ?_); rw [HM.out]; rintro E w3 ⟨rfl, hu3⟩; have z3 := hu3.size; (try simp at z3); have R5_w3 : Row w3 w1.heap.size #[.int .i64 x, .int .i64 y] := Row.up (show Row _ w1.heap.size #[.int .i64 x, .int .i64 y] from (by exact ra)) hu3; have R3_w3 : Row w3 w.heap.size #[.int .i64 bx, .int .i64 bz] := Row.up (show Row _ w.heap.size #[.int .i64 bx, .int .i64 bz] from (by exact ra)) hu3; have u3 : Up w w3 := (show Chg [] w w3 by (repeat' (first | (with_reducible first | exact Chg.refl _ _ | assumption | refine Chg.alloc ?_ _ | refine Chg.drew ?_ | refine Chg.drewN ?_ _ | refine Chg.setCell ?_ ?_ _ | refine Chg.upc ?_ (by assumption) | refine Chg.call ?_ (by assumption) ?_) | (refine Or.inl ?_; (simp; done)) | (simp; done) | (simp; omega) | omega))).up; (try dsimp only))
      refine hK.out _ _ ?_ (fun hHeld => ?_)
      · exact s4_of R5_w3 R3_w3
      clear hK K
      (try simp only [Act.put, lga, lgz, lgs, lsa, lsz, lss])
      refine wpAnyH_take (i := 5) (v := ?_) rfl (by kernel_rfl) (by kernel_rfl) (by kernel_rfl) (fun _ _ _ h => h) (Or.inl ⟨by rfl, ?_⟩) (by assumption) ?_
      rotate_left
      · intro w2 hSw
        (try dsimp only at hSw)
        (try (obtain ⟨s0, s1, s2, s3⟩ := hSw))
        go_simp
        (try (with_reducible rfl))
      (try simp only [Act.put, lga, lgz, lgs, lsa, lsz, lss])
      refine wpAnyH_take (i := 6) (v := ?_) rfl (by kernel_rfl) (by kernel_rfl) (by kernel_rfl) (fun _ _ _ h => h) (Or.inl ⟨by rfl, ?_⟩) (by assumption) ?_
      rotate_left
      · intro w2 hSw
        (try dsimp only at hSw)
        (try (obtain ⟨s0, s1, s2, s3⟩ := hSw))
        go_simp
        (try (with_reducible rfl))
      (try simp only [Act.put, lga, lgz, lgs, lsa, lsz, lss])
      refine wpAnyH_take (i := 7) (v := ?_) rfl (by kernel_rfl) (by kernel_rfl) (by kernel_rfl) (fun _ _ _ h => h) (Or.inl ⟨by rfl, ?_⟩) (by assumption) ?_
      rotate_left
      · intro w2 hSw
        (try dsimp only at hSw)
        (try (obtain ⟨s0, s1, s2, s3⟩ := hSw))
        go_simp
        (try (with_reducible rfl))
      (try simp only [Act.put, lga, lgz, lgs, lsa, lsz, lss])
      refine wpAnyH_ready (rs := [8]) (by decide +kernel) (by simp) ?_
      refine AllReadyH.cons rfl (fun K hK => ?_) (AllReadyH.nil)
      (try simp only [lga, lgz, lgs])
      (go_simp)
      refine hK.out _ _ ?_ (fun hHeld => ?_)
      · exact s4_of (show Row _ w1.heap.size #[.int .i64 x, .int .i64 y] from (by exact ra)) (show Row _ w.heap.size #[.int .i64 bx, .int .i64 bz] from (by exact ra))
      clear hK K
      (try simp only [Act.put, lga, lgz, lgs, lsa, lsz, lss])
      refine wpAnyH_ready (rs := [9]) (by decide +kernel) (by simp) ?_
      refine AllReadyH.cons rfl (fun K hK => ?_) (AllReadyH.nil)
      (try simp only [lga, lgz, lgs])
      (go_simp)
      refine hK.out _ _ ?_ (fun hHeld => ?_)
      · exact s4_of (show Row _ w1.heap.size #[.int .i64 x, .int .i64 y] from (by exact ra)) (show Row _ w.heap.size #[.int .i64 bx, .int .i64 bz] from (by exact ra))
      clear hK K
      (try simp only [Act.put, lga, lgz, lgs, lsa, lsz, lss])
      refine wpAnyH_take (i := 10) (v := ?_) rfl (by kernel_rfl) (by kernel_rfl) (by kernel_rfl) (fun _ _ _ h => h) (Or.inl ⟨by rfl, ?_⟩) (by assumption) ?_
      rotate_left
      · intro w2 hSw
        (try dsimp only at hSw)
        (try (obtain ⟨s0, s1, s2, s3⟩ := hSw))
        go_simp
        (try (with_reducible rfl))
      (try simp only [Act.put, lga, lgz, lgs, lsa, lsz, lss])
      refine wpAnyH_done (by kernel_rfl) ?_ _
      (try dsimp only)
      generalize hW : World.alloc w3 _ = wR
      have R7 : Row wR (w3.heap.size) #[.int .i64 tx, .int .i64 tz] := by rw [← hW]; exact Row.made _ _ _
      have uR : Up w wR := by rw [← hW]; exact (show Chg [] w _ from by (repeat' (first | (with_reducible first | exact Chg.refl _ _ | assumption | refine Chg.alloc ?_ _ | refine Chg.drew ?_ | refine Chg.drewN ?_ _ | refine Chg.setCell ?_ ?_ _ | refine Chg.upc ?_ (by assumption) | refine Chg.call ?_ (by assumption) ?_) | (refine Or.inl ?_; (simp; done)) | (simp; done) | (simp; omega) | omega))).up
      have zR := uR.size
      have lR7 := R7.lt; have cR7_0 := R7.cell 0 rfl; have fR7_0 := R7.free 0; have cR7_1 := R7.cell 1 rfl; have fR7_1 := R7.free 1
      clear hW hHeld
      go_wp2
      go_ret
      exact ⟨rfl, uR⟩
    · skip
      (try simp only [lga, lgz, lgs])
      (go_simp)
      refine hK.out _ _ ?_ (fun hHeld => ?_)
      · exact s4_of (show Row _ w1.heap.size #[.int .i64 x, .int .i64 y] from (by exact ra)) (show Row _ w.heap.size #[.int .i64 bx, .int .i64 bz] from (by exact ra))
      clear hK K
      (try simp only [Act.put, lga, lgz, lgs, lsa, lsz, lss])
      refine wpAnyH_ready (rs := [4]) (by decide +kernel) (by simp) ?_
      refine AllReadyH.cons rfl (fun K hK => ?_) (AllReadyH.nil)
      (try simp only [lga, lgz, lgs])
      (go_simp; go_at_call 34; (with_reducible refine (moved_calls C 65536 0 F FM _ dk x y bx bz _).mono ?_); rw [HM.out]; rintro E w3 ⟨rfl, hu3⟩; have z3 := hu3.size; (try simp at z3); have R5_w3 : Row w3 w1.heap.size #[.int .i64 x, .int .i64 y] := Row.up (show Row _ w1.heap.size #[.int .i64 x, .int .i64 y] from (by exact ra)) hu3; have R3_w3 : Row w3 w.heap.size #[.int .i64 bx, .int .i64 bz] := Row.up (show Row _ w.heap.size #[.int .i64 bx, .int .i64 bz] from (by exact ra)) hu3; have R7_w3 : Row w3 (w2.heap.size) #[.int .i64 0, .int .i64 0] := Row.up (show Row _ (w2.heap.size) #[.int .i64 0, .int .i64 0] from (by exact ra)) hu3; have lR7_w3 := R7_w3.lt; have cR7_w3_0 := R7_w3.cell 0 rfl; have fR7_w3_0 := R7_w3.free 0; have cR7_w3_1 := R7_w3.cell 1 rfl; have fR7_w3_1 := R7_w3.free 1; have u3 : Up w w3 := (show Chg [] w w3 by (repeat' (first | (with_reducible first | exact Chg.refl _ _ | assumption | refine Chg.alloc ?_ _ | refine Chg.drew ?_ | refine Chg.drewN ?_ _ | refine Chg.setCell ?_ ?_ _ | refine Chg.upc ?_ (by assumption) | refine Chg.call ?_ (by assumption) ?_) | (refine Or.inl ?_; (simp; done)) | (simp; done) | (simp; omega) | omega))).up; (try dsimp only))
      refine hK.out _ _ ?_ (fun hHeld => ?_)
      · exact s4_of R5_w3 R3_w3
      clear hK K
      (try simp only [Act.put, lga, lgz, lgs, lsa, lsz, lss])
      refine wpAnyH_take (i := 5) (v := ?_) rfl (by kernel_rfl) (by kernel_rfl) (by kernel_rfl) (fun _ _ _ h => h) (Or.inl ⟨by rfl, ?_⟩) (by assumption) ?_
      rotate_left
      · intro w2 hSw
        (try dsimp only at hSw)
        (try (obtain ⟨s0, s1, s2, s3⟩ := hSw))
        go_simp
        (try (with_reducible rfl))
      (try simp only [Act.put, lga, lgz, lgs, lsa, lsz, lss])
      refine wpAnyH_take (i := 6) (v := ?_) rfl (by kernel_rfl) (by kernel_rfl) (by kernel_rfl) (fun _ _ _ h => h) (Or.inl ⟨by rfl, ?_⟩) (by assumption) ?_
      rotate_left
      · intro w2 hSw
        (try dsimp only at hSw)
        (try (obtain ⟨s0, s1, s2, s3⟩ := hSw))
        go_simp
        (try (with_reducible rfl))
      (try simp only [Act.put, lga, lgz, lgs, lsa, lsz, lss])
      refine wpAnyH_take (i := 7) (v := ?_) rfl (by kernel_rfl) (by kernel_rfl) (by kernel_rfl) (fun _ _ _ h => h) (Or.inl ⟨by rfl, ?_⟩) (by assumption) ?_
      rotate_left
      · intro w2 hSw
        (try dsimp only at hSw)
        (try (obtain ⟨s0, s1, s2, s3⟩ := hSw))
        go_simp
        (try (with_reducible rfl))
      (try simp only [Act.put, lga, lgz, lgs, lsa, lsz, lss])
      refine wpAnyH_ready (rs := [9]) (by decide +kernel) (by simp) ?_
      refine AllReadyH.cons rfl (fun K hK => ?_) (AllReadyH.nil)
      (try simp only [lga, lgz, lgs])
      (go_simp)
      refine hK.out _ _ ?_ (fun hHeld => ?_)
      · exact s4_of (show Row _ w1.heap.size #[.int .i64 x, .int .i64 y] from (by exact ra)) (show Row _ w.heap.size #[.int .i64 bx, .int .i64 bz] from (by exact ra))
      clear hK K
      (try simp only [Act.put, lga, lgz, lgs, lsa, lsz, lss])
      refine wpAnyH_take (i := 10) (v := ?_) rfl (by kernel_rfl) (by kernel_rfl) (by kernel_rfl) (fun _ _ _ h => h) (Or.inl ⟨by rfl, ?_⟩) (by assumption) ?_
      rotate_left
      · intro w2 hSw
        (try dsimp only at hSw)
        (try (obtain ⟨s0, s1, s2, s3⟩ := hSw))
        go_simp
        (try (with_reducible rfl))
      (try simp only [Act.put, lga, lgz, lgs, lsa, lsz, lss])
      refine wpAnyH_done (by kernel_rfl) ?_ _
      (try dsimp only)
      generalize hW : World.setCell (World.setCell _ _ _) _ _ = wR
      have R7 : Row wR (w2.heap.size) #[.int .i64 tx, .int .i64 tz] := by rw [← hW]; exact (by exact ro)
      have uR : Up w wR := by rw [← hW]; exact (show Chg [] w _ from by (repeat' (first | (with_reducible first | exact Chg.refl _ _ | assumption | refine Chg.alloc ?_ _ | refine Chg.drew ?_ | refine Chg.drewN ?_ _ | refine Chg.setCell ?_ ?_ _ | refine Chg.upc ?_ (by assumption) | refine Chg.call ?_ (by assumption) ?_) | (refine Or.inl ?_; (simp; done)) | (simp; done) | (simp; omega) | omega))).up
      have zR := uR.size
      have lR7 := R7.lt; have cR7_0 := R7.cell 0 rfl; have fR7_0 := R7.free 0; have cR7_1 := R7.cell 1 rfl; have fR7_1 := R7.free 1
      clear hW hHeld
      go_wp2
      go_ret
      exact ⟨rfl, uR⟩
  · skip
    (try simp only [lga, lgz, lgs])
    (go_simp)
    refine hK.out _ _ ?_ (fun hHeld => ?_)
    · exact s4_of (show Row _ w1.heap.size #[.int .i64 x, .int .i64 y] from (by exact ra)) (show Row _ w.heap.size #[.int .i64 bx, .int .i64 bz] from (by exact ra))
    clear hK K
    (try simp only [Act.put, lga, lgz, lgs, lsa, lsz, lss])
    refine wpAnyH_ready (rs := [1]) (by decide +kernel) (by simp) ?_
    refine AllReadyH.cons rfl (fun K hK => ?_) (AllReadyH.nil)
    (try simp only [lga, lgz, lgs])
    (go_simp; go_at_call 27; (with_reducible refine (now_callsL g C 65536 0 F FM dk p 2 n _ (HG.out.up (show Chg [] w _ from (by (repeat' (first | (with_reducible first | exact Chg.refl _ _ | assumption | refine Chg.alloc ?_ _ | refine Chg.drew ?_ | refine Chg.drewN ?_ _ | refine Chg.setCell ?_ ?_ _ | refine Chg.upc ?_ (by assumption) | refine Chg.call ?_ (by assumption) ?_) | (refine Or.inl ?_; (simp; done)) | (simp; done) | (simp; omega) | omega)))).up)).mono ?_); rintro E w2 ⟨⟨gc, rfl⟩, hu2⟩; have z2 := hu2.size; (try simp at z2); have R5_w2 : Row w2 w1.heap.size #[.int .i64 x, .int .i64 y] := Row.up (show Row _ w1.heap.size #[.int .i64 x, .int .i64 y] from (by exact ra)) hu2; have R3_w2 : Row w2 w.heap.size #[.int .i64 bx, .int .i64 bz] := Row.up (show Row _ w.heap.size #[.int .i64 bx, .int .i64 bz] from (by exact ra)) hu2; have R7_w2 : Row w2 (w1.heap.size + 1) #[.int .i64 0, .int .i64 0] := Row.up (show Row _ (w1.heap.size + 1) #[.int .i64 0, .int .i64 0] from (by exact ra)) hu2; have lR7_w2 := R7_w2.lt; have cR7_w2_0 := R7_w2.cell 0 rfl; have fR7_w2_0 := R7_w2.free 0; have cR7_w2_1 := R7_w2.cell 1 rfl; have fR7_w2_1 := R7_w2.free 1; (try dsimp only))
    refine hK.out _ _ ?_ (fun hHeld => ?_)
    · exact s4_of R5_w2 R3_w2
    clear hK K
    (try simp only [Act.put, lga, lgz, lgs, lsa, lsz, lss])
    refine wpAnyH_ready (rs := [4]) (by decide +kernel) (by simp) ?_
    refine AllReadyH.cons rfl (fun K hK => ?_) (AllReadyH.nil)
    (try simp only [lga, lgz, lgs])
    (go_simp; go_at_call 34; (with_reducible refine (moved_calls C 65536 0 F FM _ dk x y bx bz _).mono ?_); rw [HM.out]; rintro E w3 ⟨rfl, hu3⟩; have z3 := hu3.size; (try simp at z3); have R5_w3 : Row w3 w1.heap.size #[.int .i64 x, .int .i64 y] := Row.up (show Row _ w1.heap.size #[.int .i64 x, .int .i64 y] from (by exact ra)) hu3; have R3_w3 : Row w3 w.heap.size #[.int .i64 bx, .int .i64 bz] := Row.up (show Row _ w.heap.size #[.int .i64 bx, .int .i64 bz] from (by exact ra)) hu3; have R7_w3 : Row w3 (w1.heap.size + 1) #[.int .i64 0, .int .i64 0] := Row.up (show Row _ (w1.heap.size + 1) #[.int .i64 0, .int .i64 0] from (by exact ra)) hu3; have lR7_w3 := R7_w3.lt; have cR7_w3_0 := R7_w3.cell 0 rfl; have fR7_w3_0 := R7_w3.free 0; have cR7_w3_1 := R7_w3.cell 1 rfl; have fR7_w3_1 := R7_w3.free 1; have u3 : Up w w3 := (show Chg [] w w3 by (repeat' (first | (with_reducible first | exact Chg.refl _ _ | assumption | refine Chg.alloc ?_ _ | refine Chg.drew ?_ | refine Chg.drewN ?_ _ | refine Chg.setCell ?_ ?_ _ | refine Chg.upc ?_ (by assumption) | refine Chg.call ?_ (by assumption) ?_) | (refine Or.inl ?_; (simp; done)) | (simp; done) | (simp; omega) | omega))).up; (try dsimp only))
    refine hK.out _ _ ?_ (fun hHeld => ?_)
    · exact s4_of R5_w3 R3_w3
    clear hK K
    (try simp only [Act.put, lga, lgz, lgs, lsa, lsz, lss])
    refine wpAnyH_take (i := 5) (v := ?_) rfl (by kernel_rfl) (by kernel_rfl) (by kernel_rfl) (fun _ _ _ h => h) (Or.inl ⟨by rfl, ?_⟩) (by assumption) ?_
    rotate_left
    · intro w2 hSw
      (try dsimp only at hSw)
      (try (obtain ⟨s0, s1, s2, s3⟩ := hSw))
      go_simp
      (try (with_reducible rfl))
    (try simp only [Act.put, lga, lgz, lgs, lsa, lsz, lss])
    refine wpAnyH_take (i := 6) (v := ?_) rfl (by kernel_rfl) (by kernel_rfl) (by kernel_rfl) (fun _ _ _ h => h) (Or.inl ⟨by rfl, ?_⟩) (by assumption) ?_
    rotate_left
    · intro w2 hSw
      (try dsimp only at hSw)
      (try (obtain ⟨s0, s1, s2, s3⟩ := hSw))
      go_simp
      (try (with_reducible rfl))
    (try simp only [Act.put, lga, lgz, lgs, lsa, lsz, lss])
    refine wpAnyH_take (i := 7) (v := ?_) rfl (by kernel_rfl) (by kernel_rfl) (by kernel_rfl) (fun _ _ _ h => h) (Or.inl ⟨by rfl, ?_⟩) (by assumption) ?_
    rotate_left
    · intro w2 hSw
      (try dsimp only at hSw)
      (try (obtain ⟨s0, s1, s2, s3⟩ := hSw))
      go_simp
      (try (with_reducible rfl))
    (try simp only [Act.put, lga, lgz, lgs, lsa, lsz, lss])
    refine wpAnyH_ready (rs := [9]) (by decide +kernel) (by simp) ?_
    refine AllReadyH.cons rfl (fun K hK => ?_) (AllReadyH.nil)
    (try simp only [lga, lgz, lgs])
    (go_simp)
    refine hK.out _ _ ?_ (fun hHeld => ?_)
    · exact s4_of (show Row _ w1.heap.size #[.int .i64 x, .int .i64 y] from (by exact ra)) (show Row _ w.heap.size #[.int .i64 bx, .int .i64 bz] from (by exact ra))
    clear hK K
    (try simp only [Act.put, lga, lgz, lgs, lsa, lsz, lss])
    refine wpAnyH_take (i := 10) (v := ?_) rfl (by kernel_rfl) (by kernel_rfl) (by kernel_rfl) (fun _ _ _ h => h) (Or.inl ⟨by rfl, ?_⟩) (by assumption) ?_
    rotate_left
    · intro w2 hSw
      (try dsimp only at hSw)
      (try (obtain ⟨s0, s1, s2, s3⟩ := hSw))
      go_simp
      (try (with_reducible rfl))
    (try simp only [Act.put, lga, lgz, lgs, lsa, lsz, lss])
    refine wpAnyH_done (by kernel_rfl) ?_ _
    (try dsimp only)
    generalize hW : World.setCell (World.setCell _ _ _) _ _ = wR
    have R7 : Row wR (w1.heap.size + 1) #[.int .i64 tx, .int .i64 tz] := by rw [← hW]; exact (by exact ro)
    have uR : Up w wR := by rw [← hW]; exact (show Chg [] w _ from by (repeat' (first | (with_reducible first | exact Chg.refl _ _ | assumption | refine Chg.alloc ?_ _ | refine Chg.drew ?_ | refine Chg.drewN ?_ _ | refine Chg.setCell ?_ ?_ _ | refine Chg.upc ?_ (by assumption) | refine Chg.call ?_ (by assumption) ?_) | (refine Or.inl ?_; (simp; done)) | (simp; done) | (simp; omega) | omega))).up
    have zR := uR.size
    have lR7 := R7.lt; have cR7_0 := R7.cell 0 rfl; have fR7_0 := R7.free 0; have cR7_1 := R7.cell 1 rfl; have fR7_1 := R7.free 1
    clear hW hHeld
    go_wp2
    go_ret
    exact ⟨rfl, uR⟩

set_option maxRecDepth 8000 in
set_option maxHeartbeats 4000000 in
theorem on_good (g p : Nat) (C : M6) (F : Int) (FM : M6) (dk : Bool) (n : Int) (pv : Value) (T : St) (x y bx bz tx tz : Int) (w : World) (hg : Row w g (gsC C 65536 (.slice none 0 0) 0 F FM dk p 2 n)) (hp : Path.PathIs w p pv T) (hcu : Path.St.cur T = ((x, y), 0)) (hM : movedR C x y bx bz = ((tx, tz), 0)) (hLK : lastK T.l = 1) (hTM : (T.move (tx, tz)).2 = 0) :
    Calls Tryd.prog 38 #[.pointer (some ⟨g, 0, none⟩), .agg #[.int .i64 bx, .int .i64 bz]] w fun E w' => E = .returned (.int .i64 0) ∧ Path.Left w p pv (T.move (tx, tz)).1 w' := by
  have HG := Lib.hid hg
  have HP := Lib.hid hp
  have HCU := Lib.hid hcu
  have HLP := Lib.hid hp.row.lt
  have HLV := Lib.hid (pv_lt hp)
  have HM := Lib.hid hM
  have HLK := Lib.hid hLK
  have HTM := Lib.hid hTM
  clear hM hLK hTM
  clear hg hp hcu
  go_enter Tryd.func38, Tryd.ntmps38
  go_wp2_with (first
    | (go_at_call 16; ((with_reducible refine (path_calls g p _ ((HG.out.up (show Chg [] w _ from (by (repeat' (first | (with_reducible first | exact Chg.refl _ _ | assumption | refine Chg.alloc ?_ _ | refine Chg.drew ?_ | refine Chg.drewN ?_ _ | refine Chg.setCell ?_ ?_ _ | refine Chg.upc ?_ (by assumption) | refine Chg.call ?_ (by assumption) ?_) | (refine Or.inl ?_; (simp; done)) | (simp; done) | (simp; omega) | omega)))).up).cell 26 rfl)).mono ?_); rintro E w90 ⟨rfl, rfl⟩))
    | (go_at_call 59; ((with_reducible refine (Path.current_calls p pv T _ (HP.out.up (show Chg [] w _ from (by (repeat' (first | (with_reducible first | exact Chg.refl _ _ | assumption | refine Chg.alloc ?_ _ | refine Chg.drew ?_ | refine Chg.drewN ?_ _ | refine Chg.setCell ?_ ?_ _ | refine Chg.upc ?_ (by assumption) | refine Chg.call ?_ (by assumption) ?_) | (refine Or.inl ?_; (simp; done)) | (simp; done) | (simp; omega) | omega)))).up)).mono ?_); rw [HCU.out]; rintro E w1 ⟨rfl, hu1⟩; have z1 := hu1.size; (try simp at z1); have R3_w1 : Row w1 w.heap.size #[.int .i64 bx, .int .i64 bz] := Row.up (show Row _ w.heap.size #[.int .i64 bx, .int .i64 bz] from (by exact ra)) hu1)))
  refine wp_region_held_drew (S := fun w' => w'.cell? ⟨w1.heap.size, 0, none⟩ = some (.int .i64 x) ∧ w'.cell? ⟨w1.heap.size, 1, none⟩ = some (.int .i64 y) ∧ w'.cell? ⟨w.heap.size, 0, none⟩ = some (.int .i64 bx) ∧ w'.cell? ⟨w.heap.size, 1, none⟩ = some (.int .i64 bz)) (by kernel_rfl) ?_ (fun hHeld => ?_)
  · exact s4_of (show Row _ w1.heap.size #[.int .i64 x, .int .i64 y] from (by exact ra)) (show Row _ w.heap.size #[.int .i64 bx, .int .i64 bz] from (by exact ra))
  refine wpAnyH_take (i := 0) (v := ?_) rfl (by kernel_rfl) (by kernel_rfl) (by kernel_rfl) (fun _ _ _ h => h) (Or.inl ⟨by rfl, ?_⟩) (by assumption) ?_
  rotate_left
  · intro w2 hSw
    (try dsimp only at hSw)
    (try (obtain ⟨s0, s1, s2, s3⟩ := hSw))
    go_simp
    (try (with_reducible rfl))
  (try simp only [Act.put, lga, lgz, lgs, lsa, lsz, lss])
  refine wpAnyH_take (i := 2) (v := ?_) rfl (by kernel_rfl) (by kernel_rfl) (by kernel_rfl) (fun _ _ _ h => h) (Or.inl ⟨by rfl, ?_⟩) (by assumption) ?_
  rotate_left
  · intro w2 hSw
    (try dsimp only at hSw)
    (try (obtain ⟨s0, s1, s2, s3⟩ := hSw))
    go_simp
    (try (with_reducible rfl))
  (try simp only [Act.put, lga, lgz, lgs, lsa, lsz, lss])
  refine wpAnyH_take (i := 3) (v := ?_) rfl (by kernel_rfl) (by kernel_rfl) (by kernel_rfl) (fun _ _ _ h => h) (Or.inl ⟨by rfl, ?_⟩) (by assumption) ?_
  rotate_left
  · intro w2 hSw
    (try dsimp only at hSw)
    (try (obtain ⟨s0, s1, s2, s3⟩ := hSw))
    go_simp
    (try (with_reducible rfl))
  (try simp only [Act.put, lga, lgz, lgs, lsa, lsz, lss])
  refine wpAnyH_ready (rs := [1, 8]) (by decide +kernel) (by simp) ?_
  refine AllReadyH.cons rfl (fun K hK => ?_) (AllReadyH.cons rfl (fun K hK => ?_) (AllReadyH.nil))
  · skip
    (try simp only [lga, lgz, lgs])
    (go_simp; go_at_call 27; (with_reducible refine (now_callsL g C 65536 0 F FM dk p 2 n _ (HG.out.up (show Chg [] w _ from (by (repeat' (first | (with_reducible first | exact Chg.refl _ _ | assumption | refine Chg.alloc ?_ _ | refine Chg.drew ?_ | refine Chg.drewN ?_ _ | refine Chg.setCell ?_ ?_ _ | refine Chg.upc ?_ (by assumption) | refine Chg.call ?_ (by assumption) ?_) | (refine Or.inl ?_; (simp; done)) | (simp; done) | (simp; omega) | omega)))).up)).mono ?_); rintro E w2 ⟨⟨gc, rfl⟩, hu2⟩; have z2 := hu2.size; (try simp at z2); have R5_w2 : Row w2 w1.heap.size #[.int .i64 x, .int .i64 y] := Row.up (show Row _ w1.heap.size #[.int .i64 x, .int .i64 y] from (by exact ra)) hu2; have R3_w2 : Row w2 w.heap.size #[.int .i64 bx, .int .i64 bz] := Row.up (show Row _ w.heap.size #[.int .i64 bx, .int .i64 bz] from (by exact ra)) hu2; (try dsimp only))
    refine hK.out _ _ ?_ (fun hHeld => ?_)
    · exact s4_of R5_w2 R3_w2
    clear hK K
    (try simp only [Act.put, lga, lgz, lgs, lsa, lsz, lss])
    refine wpAnyH_ready (rs := [4, 8]) (by decide +kernel) (by simp) ?_
    refine AllReadyH.cons rfl (fun K hK => ?_) (AllReadyH.cons rfl (fun K hK => ?_) (AllReadyH.nil))
    · skip
      (try simp only [lga, lgz, lgs])
      (go_simp; go_at_call 34; (with_reducible refine (moved_calls C 65536 0 F FM _ dk x y bx bz _).mono ?_); rw [HM.out]; rintro E w3 ⟨rfl, hu3⟩; have z3 := hu3.size; (try simp at z3); have R5_w3 : Row w3 w1.heap.size #[.int .i64 x, .int .i64 y] := Row.up (show Row _ w1.heap.size #[.int .i64 x, .int .i64 y] from (by exact ra)) hu3; have R3_w3 : Row w3 w.heap.size #[.int .i64 bx, .int .i64 bz] := Row.up (show Row _ w.heap.size #[.int .i64 bx, .int .i64 bz] from (by exact ra)) hu3; have u3 : Up w w3 := (show Chg [] w w3 by (repeat' (first | (with_reducible first | exact Chg.refl _ _ | assumption | refine Chg.alloc ?_ _ | refine Chg.drew ?_ | refine Chg.drewN ?_ _ | refine Chg.setCell ?_ ?_ _ | refine Chg.upc ?_ (by assumption) | refine Chg.call ?_ (by assumption) ?_) | (refine Or.inl ?_; (simp; done)) | (simp; done) | (simp; omega) | omega))).up; (try dsimp only))
      refine hK.out _ _ ?_ (fun hHeld => ?_)
      · exact s4_of R5_w3 R3_w3
      clear hK K
      (try simp only [Act.put, lga, lgz, lgs, lsa, lsz, lss])
      refine wpAnyH_take (i := 5) (v := ?_) rfl (by kernel_rfl) (by kernel_rfl) (by kernel_rfl) (fun _ _ _ h => h) (Or.inl ⟨by rfl, ?_⟩) (by assumption) ?_
      rotate_left
      · intro w2 hSw
        (try dsimp only at hSw)
        (try (obtain ⟨s0, s1, s2, s3⟩ := hSw))
        go_simp
        (try (with_reducible rfl))
      (try simp only [Act.put, lga, lgz, lgs, lsa, lsz, lss])
      refine wpAnyH_take (i := 6) (v := ?_) rfl (by kernel_rfl) (by kernel_rfl) (by kernel_rfl) (fun _ _ _ h => h) (Or.inl ⟨by rfl, ?_⟩) (by assumption) ?_
      rotate_left
      · intro w2 hSw
        (try dsimp only at hSw)
        (try (obtain ⟨s0, s1, s2, s3⟩ := hSw))
        go_simp
        (try (with_reducible rfl))
      (try simp only [Act.put, lga, lgz, lgs, lsa, lsz, lss])
      refine wpAnyH_take (i := 7) (v := ?_) rfl (by kernel_rfl) (by kernel_rfl) (by kernel_rfl) (fun _ _ _ h => h) (Or.inl ⟨by rfl, ?_⟩) (by assumption) ?_
      rotate_left
      · intro w2 hSw
        (try dsimp only at hSw)
        (try (obtain ⟨s0, s1, s2, s3⟩ := hSw))
        go_simp
        (try (with_reducible rfl))
      (try simp only [Act.put, lga, lgz, lgs, lsa, lsz, lss])
      refine wpAnyH_ready (rs := [8]) (by decide +kernel) (by simp) ?_
      refine AllReadyH.cons rfl (fun K hK => ?_) (AllReadyH.nil)
      (try simp only [lga, lgz, lgs])
      (go_simp)
      refine hK.out _ _ ?_ (fun hHeld => ?_)
      · exact s4_of (show Row _ w1.heap.size #[.int .i64 x, .int .i64 y] from (by exact ra)) (show Row _ w.heap.size #[.int .i64 bx, .int .i64 bz] from (by exact ra))
      clear hK K
      (try simp only [Act.put, lga, lgz, lgs, lsa, lsz, lss])
      refine wpAnyH_ready (rs := [9]) (by decide +kernel) (by simp) ?_
      refine AllReadyH.cons rfl (fun K hK => ?_) (AllReadyH.nil)
      (try simp only [lga, lgz, lgs])
      (go_simp)
      refine hK.out _ _ ?_ (fun hHeld => ?_)
      · exact s4_of (show Row _ w1.heap.size #[.int .i64 x, .int .i64 y] from (by exact ra)) (show Row _ w.heap.size #[.int .i64 bx, .int .i64 bz] from (by exact ra))
      clear hK K
      (try simp only [Act.put, lga, lgz, lgs, lsa, lsz, lss])
      refine wpAnyH_take (i := 10) (v := ?_) rfl (by kernel_rfl) (by kernel_rfl) (by kernel_rfl) (fun _ _ _ h => h) (Or.inl ⟨by rfl, ?_⟩) (by assumption) ?_
      rotate_left
      · intro w2 hSw
        (try dsimp only at hSw)
        (try (obtain ⟨s0, s1, s2, s3⟩ := hSw))
        go_simp
        (try (with_reducible rfl))
      (try simp only [Act.put, lga, lgz, lgs, lsa, lsz, lss])
      refine wpAnyH_done (by kernel_rfl) ?_ _
      (try dsimp only)
      generalize hW : World.alloc w3 _ = wR
      have R7 : Row wR (w3.heap.size) #[.int .i64 tx, .int .i64 tz] := by rw [← hW]; exact Row.made _ _ _
      have uR : Up w wR := by rw [← hW]; exact (show Chg [] w _ from by (repeat' (first | (with_reducible first | exact Chg.refl _ _ | assumption | refine Chg.alloc ?_ _ | refine Chg.drew ?_ | refine Chg.drewN ?_ _ | refine Chg.setCell ?_ ?_ _ | refine Chg.upc ?_ (by assumption) | refine Chg.call ?_ (by assumption) ?_) | (refine Or.inl ?_; (simp; done)) | (simp; done) | (simp; omega) | omega))).up
      have zR := uR.size
      have lR7 := R7.lt; have cR7_0 := R7.cell 0 rfl; have fR7_0 := R7.free 0; have cR7_1 := R7.cell 1 rfl; have fR7_1 := R7.free 1
      clear hW hHeld
      go_wp2
      refine wp_region_held_drew (S := fun w' => Row w' (w3.heap.size) #[.int .i64 tx, .int .i64 tz]) (by kernel_rfl) ?_ (fun hHeld => ?_)
      · exact Row.drew R7
      refine wpAnyH_take (i := 0) (v := ?_) rfl (by kernel_rfl) (by kernel_rfl) (by kernel_rfl) (fun _ _ _ h => h) (Or.inl ⟨by rfl, ?_⟩) (by assumption) ?_
      rotate_left
      · intro w2 hSw
        (try dsimp only at hSw)
        (try (obtain ⟨hs1, hs2, hs3⟩ := hSw))
        go_simp
        (try (with_reducible rfl))
      (try simp only [Act.put, lga, lgz, lgs, lsa, lsz, lss])
      refine wpAnyH_take (i := 2) rfl (by kernel_rfl) (by kernel_rfl) (by kernel_rfl) (fun _ _ _ h => h) (yieldsIf_load_mid (by rfl) 24 (.tmp 7) rfl (w3.heap.size) 0 rfl #[.int .i64 tx, .int .i64 tz].toList _ (fun _ h => rng0 h) Tryd.underlying24 rfl (by exact infoP)) (by assumption) ?_
      (try simp only [Act.put, lga, lgz, lgs, lsa, lsz, lss])
      refine wpAnyH_ready (rs := [1]) (by decide +kernel) (by simp) ?_
      refine AllReadyH.cons rfl (fun K hK => ?_) (AllReadyH.nil)
      (try simp only [lga, lgz, lgs])
      (go_simp; go_at_call 16; (with_reducible refine (path_calls g p _ (Row.cell (show Row _ g (gsC C 65536 (.slice none 0 0) 0 F FM dk p 2 n) from Row.drew (HG.out.up uR)) 26 rfl)).mono ?_); rintro E wx ⟨rfl, rfl⟩; (try dsimp only))
      refine hK.out _ _ ?_ (fun hHeld => ?_)
      · exact hHeld
      clear hK K
      (try simp only [Act.put, lga, lgz, lgs, lsa, lsz, lss])
      refine wpAnyH_ready (rs := [3]) (by decide +kernel) (by simp) ?_
      refine AllReadyH.cons rfl (fun K hK => ?_) (AllReadyH.nil)
      (try simp only [lga, lgz, lgs])
      (go_simp; go_at_call 25; (with_reducible refine (Path.move_onto p pv T tx tz _ (Path.PathIs.up (w := wR) (HP.out.up uR) (Up.drew (Up.refl _))) HLK.out).mono ?_); rw [HTM.out]; rintro E w7 ⟨rfl, hl7⟩; have HL7 := Lib.hid (Path.Left.of_up (show Up w _ from Up.drew uR) hl7); (try dsimp only))
      refine hK.out _ _ ?_ (fun hHeld => ?_)
      · exact (let ⟨_, _, hc7, _⟩ := hl7; Row.chg hHeld hc7 (fun hk => by rcases List.mem_cons.1 hk with h1 | h1; (have := HLP.out; omega); (have := HLV.out _ h1; omega)))
      clear hK K
      (try simp only [Act.put, lga, lgz, lgs, lsa, lsz, lss])
      refine wpAnyH_take (i := 4) (v := ?_) rfl (by kernel_rfl) (by kernel_rfl) (by kernel_rfl) (fun _ _ _ h => h) (Or.inl ⟨by rfl, ?_⟩) (by assumption) ?_
      rotate_left
      · intro w2 hSw
        (try dsimp only at hSw)
        (try (obtain ⟨hs1, hs2, hs3⟩ := hSw))
        go_simp
        (try (with_reducible rfl))
      (try simp only [Act.put, lga, lgz, lgs, lsa, lsz, lss])
      refine wpAnyH_done (by kernel_rfl) ?_ _
      clear hHeld
      go_wp2
      go_ret
      exact ⟨rfl, HL7.out⟩
    · skip
      (try simp only [lga, lgz, lgs])
      (go_simp)
      refine hK.out _ _ ?_ (fun hHeld => ?_)
      · exact s4_of (show Row _ w1.heap.size #[.int .i64 x, .int .i64 y] from (by exact ra)) (show Row _ w.heap.size #[.int .i64 bx, .int .i64 bz] from (by exact ra))
      clear hK K
      (try simp only [Act.put, lga, lgz, lgs, lsa, lsz, lss])
      refine wpAnyH_ready (rs := [4]) (by decide +kernel) (by simp) ?_
      refine AllReadyH.cons rfl (fun K hK => ?_) (AllReadyH.nil)
      (try simp only [lga, lgz, lgs])
      (go_simp; go_at_call 34; (with_reducible refine (moved_calls C 65536 0 F FM _ dk x y bx bz _).mono ?_); rw [HM.out]; rintro E w3 ⟨rfl, hu3⟩; have z3 := hu3.size; (try simp at z3); have R5_w3 : Row w3 w1.heap.size #[.int .i64 x, .int .i64 y] := Row.up (show Row _ w1.heap.size #[.int .i64 x, .int .i64 y] from (by exact ra)) hu3; have R3_w3 : Row w3 w.heap.size #[.int .i64 bx, .int .i64 bz] := Row.up (show Row _ w.heap.size #[.int .i64 bx, .int .i64 bz] from (by exact ra)) hu3; have R7_w3 : Row w3 (w2.heap.size) #[.int .i64 0, .int .i64 0] := Row.up (show Row _ (w2.heap.size) #[.int .i64 0, .int .i64 0] from (by exact ra)) hu3; have lR7_w3 := R7_w3.lt; have cR7_w3_0 := R7_w3.cell 0 rfl; have fR7_w3_0 := R7_w3.free 0; have cR7_w3_1 := R7_w3.cell 1 rfl; have fR7_w3_1 := R7_w3.free 1; have u3 : Up w w3 := (show Chg [] w w3 by (repeat' (first | (with_reducible first | exact Chg.refl _ _ | assumption | refine Chg.alloc ?_ _ | refine Chg.drew ?_ | refine Chg.drewN ?_ _ | refine Chg.setCell ?_ ?_ _ | refine Chg.upc ?_ (by assumption) | refine Chg.call ?_ (by assumption) ?_) | (refine Or.inl ?_; (simp; done)) | (simp; done) | (simp; omega) | omega))).up; (try dsimp only))
      refine hK.out _ _ ?_ (fun hHeld => ?_)
      · exact s4_of R5_w3 R3_w3
      clear hK K
      (try simp only [Act.put, lga, lgz, lgs, lsa, lsz, lss])
      refine wpAnyH_take (i := 5) (v := ?_) rfl (by kernel_rfl) (by kernel_rfl) (by kernel_rfl) (fun _ _ _ h => h) (Or.inl ⟨by rfl, ?_⟩) (by assumption) ?_
      rotate_left
      · intro w2 hSw
        (try dsimp only at hSw)
        (try (obtain ⟨s0, s1, s2, s3⟩ := hSw))
        go_simp
        (try (with_reducible rfl))
      (try simp only [Act.put, lga, lgz, lgs, lsa, lsz, lss])
      refine wpAnyH_take (i := 6) (v := ?_) rfl (by kernel_rfl) (by kernel_rfl) (by kernel_rfl) (fun _ _ _ h => h) (Or.inl ⟨by rfl, ?_⟩) (by assumption) ?_
      rotate_left
      · intro w2 hSw
        (try dsimp only at hSw)
        (try (obtain ⟨s0, s1, s2, s3⟩ := hSw))
        go_simp
        (try (with_reducible rfl))
      (try simp only [Act.put, lga, lgz, lgs, lsa, lsz, lss])
      refine wpAnyH_take (i := 7) (v := ?_) rfl (by kernel_rfl) (by kernel_rfl) (by kernel_rfl) (fun _ _ _ h => h) (Or.inl ⟨by rfl, ?_⟩) (by assumption) ?_
      rotate_left
      · intro w2 hSw
        (try dsimp only at hSw)
        (try (obtain ⟨s0, s1, s2, s3⟩ := hSw))
        go_simp
        (try (with_reducible rfl))
      (try simp only [Act.put, lga, lgz, lgs, lsa, lsz, lss])
      refine wpAnyH_ready (rs := [9]) (by decide +kernel) (by simp) ?_
      refine AllReadyH.cons rfl (fun K hK => ?_) (AllReadyH.nil)
      (try simp only [lga, lgz, lgs])
      (go_simp)
      refine hK.out _ _ ?_ (fun hHeld => ?_)
      · exact s4_of (show Row _ w1.heap.size #[.int .i64 x, .int .i64 y] from (by exact ra)) (show Row _ w.heap.size #[.int .i64 bx, .int .i64 bz] from (by exact ra))
      clear hK K
      (try simp only [Act.put, lga, lgz, lgs, lsa, lsz, lss])
      refine wpAnyH_take (i := 10) (v := ?_) rfl (by kernel_rfl) (by kernel_rfl) (by kernel_rfl) (fun _ _ _ h => h) (Or.inl ⟨by rfl, ?_⟩) (by assumption) ?_
      rotate_left
      · intro w2 hSw
        (try dsimp only at hSw)
        (try (obtain ⟨s0, s1, s2, s3⟩ := hSw))
        go_simp
        (try (with_reducible rfl))
      (try simp only [Act.put, lga, lgz, lgs, lsa, lsz, lss])
      refine wpAnyH_done (by kernel_rfl) ?_ _
      (try dsimp only)
      generalize hW : World.setCell (World.setCell _ _ _) _ _ = wR
      have R7 : Row wR (w2.heap.size) #[.int .i64 tx, .int .i64 tz] := by rw [← hW]; exact (by exact ro)
      have uR : Up w wR := by rw [← hW]; exact (show Chg [] w _ from by (repeat' (first | (with_reducible first | exact Chg.refl _ _ | assumption | refine Chg.alloc ?_ _ | refine Chg.drew ?_ | refine Chg.drewN ?_ _ | refine Chg.setCell ?_ ?_ _ | refine Chg.upc ?_ (by assumption) | refine Chg.call ?_ (by assumption) ?_) | (refine Or.inl ?_; (simp; done)) | (simp; done) | (simp; omega) | omega))).up
      have zR := uR.size
      have lR7 := R7.lt; have cR7_0 := R7.cell 0 rfl; have fR7_0 := R7.free 0; have cR7_1 := R7.cell 1 rfl; have fR7_1 := R7.free 1
      clear hW hHeld
      go_wp2
      refine wp_region_held_drew (S := fun w' => Row w' (w2.heap.size) #[.int .i64 tx, .int .i64 tz]) (by kernel_rfl) ?_ (fun hHeld => ?_)
      · exact Row.drew R7
      refine wpAnyH_take (i := 0) (v := ?_) rfl (by kernel_rfl) (by kernel_rfl) (by kernel_rfl) (fun _ _ _ h => h) (Or.inl ⟨by rfl, ?_⟩) (by assumption) ?_
      rotate_left
      · intro w2 hSw
        (try dsimp only at hSw)
        (try (obtain ⟨hs1, hs2, hs3⟩ := hSw))
        go_simp
        (try (with_reducible rfl))
      (try simp only [Act.put, lga, lgz, lgs, lsa, lsz, lss])
      refine wpAnyH_take (i := 2) rfl (by kernel_rfl) (by kernel_rfl) (by kernel_rfl) (fun _ _ _ h => h) (yieldsIf_load_mid (by rfl) 24 (.tmp 7) rfl (w2.heap.size) 0 rfl #[.int .i64 tx, .int .i64 tz].toList _ (fun _ h => rng0 h) Tryd.underlying24 rfl (by exact infoP)) (by assumption) ?_
      (try simp only [Act.put, lga, lgz, lgs, lsa, lsz, lss])
      refine wpAnyH_ready (rs := [1]) (by decide +kernel) (by simp) ?_
      refine AllReadyH.cons rfl (fun K hK => ?_) (AllReadyH.nil)
      (try simp only [lga, lgz, lgs])
      (go_simp; go_at_call 16; (with_reducible refine (path_calls g p _ (Row.cell (show Row _ g (gsC C 65536 (.slice none 0 0) 0 F FM dk p 2 n) from Row.drew (HG.out.up uR)) 26 rfl)).mono ?_); rintro E wx ⟨rfl, rfl⟩; (try dsimp only))
      refine hK.out _ _ ?_ (fun hHeld => ?_)
      · exact hHeld
      clear hK K
      (try simp only [Act.put, lga, lgz, lgs, lsa, lsz, lss])
      refine wpAnyH_ready (rs := [3]) (by decide +kernel) (by simp) ?_
      refine AllReadyH.cons rfl (fun K hK => ?_) (AllReadyH.nil)
      (try simp only [lga, lgz, lgs])
      (go_simp; go_at_call 25; (with_reducible refine (Path.move_onto p pv T tx tz _ (Path.PathIs.up (w := wR) (HP.out.up uR) (Up.drew (Up.refl _))) HLK.out).mono ?_); rw [HTM.out]; rintro E w7 ⟨rfl, hl7⟩; have HL7 := Lib.hid (Path.Left.of_up (show Up w _ from Up.drew uR) hl7); (try dsimp only))
      refine hK.out _ _ ?_ (fun hHeld => ?_)
      · exact (let ⟨_, _, hc7, _⟩ := hl7; Row.chg hHeld hc7 (fun hk => by rcases List.mem_cons.1 hk with h1 | h1; (have := HLP.out; omega); (have := HLV.out _ h1; omega)))
      clear hK K
      (try simp only [Act.put, lga, lgz, lgs, lsa, lsz, lss])
      refine wpAnyH_take (i := 4) (v := ?_) rfl (by kernel_rfl) (by kernel_rfl) (by kernel_rfl) (fun _ _ _ h => h) (Or.inl ⟨by rfl, ?_⟩) (by assumption) ?_
      rotate_left
      · intro w2 hSw
        (try dsimp only at hSw)
        (try (obtain ⟨hs1, hs2, hs3⟩ := hSw))
        go_simp
        (try (with_reducible rfl))
      (try simp only [Act.put, lga, lgz, lgs, lsa, lsz, lss])
      refine wpAnyH_done (by kernel_rfl) ?_ _
      clear hHeld
      go_wp2
      go_ret
      exact ⟨rfl, HL7.out⟩
  · skip
    (try simp only [lga, lgz, lgs])
    (go_simp)
    refine hK.out _ _ ?_ (fun hHeld => ?_)
    · exact s4_of (show Row _ w1.heap.size #[.int .i64 x, .int .i64 y] from (by exact ra)) (show Row _ w.heap.size #[.int .i64 bx, .int .i64 bz] from (by exact ra))
    clear hK K
    (try simp only [Act.put, lga, lgz, lgs, lsa, lsz, lss])
    refine wpAnyH_ready (rs := [1]) (by decide +kernel) (by simp) ?_
    refine AllReadyH.cons rfl (fun K hK => ?_) (AllReadyH.nil)
    (try simp only [lga, lgz, lgs])
    (go_simp; go_at_call 27; (with_reducible refine (now_callsL g C 65536 0 F FM dk p 2 n _ (HG.out.up (show Chg [] w _ from (by (repeat' (first | (with_reducible first | exact Chg.refl _ _ | assumption | refine Chg.alloc ?_ _ | refine Chg.drew ?_ | refine Chg.drewN ?_ _ | refine Chg.setCell ?_ ?_ _ | refine Chg.upc ?_ (by assumption) | refine Chg.call ?_ (by assumption) ?_) | (refine Or.inl ?_; (simp; done)) | (simp; done) | (simp; omega) | omega)))).up)).mono ?_); rintro E w2 ⟨⟨gc, rfl⟩, hu2⟩; have z2 := hu2.size; (try simp at z2); have R5_w2 : Row w2 w1.heap.size #[.int .i64 x, .int .i64 y] := Row.up (show Row _ w1.heap.size #[.int .i64 x, .int .i64 y] from (by exact ra)) hu2; have R3_w2 : Row w2 w.heap.size #[.int .i64 bx, .int .i64 bz] := Row.up (show Row _ w.heap.size #[.int .i64 bx, .int .i64 bz] from (by exact ra)) hu2; have R7_w2 : Row w2 (w1.heap.size + 1) #[.int .i64 0, .int .i64 0] := Row.up (show Row _ (w1.heap.size + 1) #[.int .i64 0, .int .i64 0] from (by exact ra)) hu2; have lR7_w2 := R7_w2.lt; have cR7_w2_0 := R7_w2.cell 0 rfl; have fR7_w2_0 := R7_w2.free 0; have cR7_w2_1 := R7_w2.cell 1 rfl; have fR7_w2_1 := R7_w2.free 1; (try dsimp only))
    refine hK.out _ _ ?_ (fun hHeld => ?_)
    · exact s4_of R5_w2 R3_w2
    clear hK K
    (try simp only [Act.put, lga, lgz, lgs, lsa, lsz, lss])
    refine wpAnyH_ready (rs := [4]) (by decide +kernel) (by simp) ?_
    refine AllReadyH.cons rfl (fun K hK => ?_) (AllReadyH.nil)
    (try simp only [lga, lgz, lgs])
    (go_simp; go_at_call 34; (with_reducible refine (moved_calls C 65536 0 F FM _ dk x y bx bz _).mono ?_); rw [HM.out]; rintro E w3 ⟨rfl, hu3⟩; have z3 := hu3.size; (try simp at z3); have R5_w3 : Row w3 w1.heap.size #[.int .i64 x, .int .i64 y] := Row.up (show Row _ w1.heap.size #[.int .i64 x, .int .i64 y] from (by exact ra)) hu3; have R3_w3 : Row w3 w.heap.size #[.int .i64 bx, .int .i64 bz] := Row.up (show Row _ w.heap.size #[.int .i64 bx, .int .i64 bz] from (by exact ra)) hu3; have R7_w3 : Row w3 (w1.heap.size + 1) #[.int .i64 0, .int .i64 0] := Row.up (show Row _ (w1.heap.size + 1) #[.int .i64 0, .int .i64 0] from (by exact ra)) hu3; have lR7_w3 := R7_w3.lt; have cR7_w3_0 := R7_w3.cell 0 rfl; have fR7_w3_0 := R7_w3.free 0; have cR7_w3_1 := R7_w3.cell 1 rfl; have fR7_w3_1 := R7_w3.free 1; have u3 : Up w w3 := (show Chg [] w w3 by (repeat' (first | (with_reducible first | exact Chg.refl _ _ | assumption | refine Chg.alloc ?_ _ | refine Chg.drew ?_ | refine Chg.drewN ?_ _ | refine Chg.setCell ?_ ?_ _ | refine Chg.upc ?_ (by assumption) | refine Chg.call ?_ (by assumption) ?_) | (refine Or.inl ?_; (simp; done)) | (simp; done) | (simp; omega) | omega))).up; (try dsimp only))
    refine hK.out _ _ ?_ (fun hHeld => ?_)
    · exact s4_of R5_w3 R3_w3
    clear hK K
    (try simp only [Act.put, lga, lgz, lgs, lsa, lsz, lss])
    refine wpAnyH_take (i := 5) (v := ?_) rfl (by kernel_rfl) (by kernel_rfl) (by kernel_rfl) (fun _ _ _ h => h) (Or.inl ⟨by rfl, ?_⟩) (by assumption) ?_
    rotate_left
    · intro w2 hSw
      (try dsimp only at hSw)
      (try (obtain ⟨s0, s1, s2, s3⟩ := hSw))
      go_simp
      (try (with_reducible rfl))
    (try simp only [Act.put, lga, lgz, lgs, lsa, lsz, lss])
    refine wpAnyH_take (i := 6) (v := ?_) rfl (by kernel_rfl) (by kernel_rfl) (by kernel_rfl) (fun _ _ _ h => h) (Or.inl ⟨by rfl, ?_⟩) (by assumption) ?_
    rotate_left
    · intro w2 hSw
      (try dsimp only at hSw)
      (try (obtain ⟨s0, s1, s2, s3⟩ := hSw))
      go_simp
      (try (with_reducible rfl))
    (try simp only [Act.put, lga, lgz, lgs, lsa, lsz, lss])
    refine wpAnyH_take (i := 7) (v := ?_) rfl (by kernel_rfl) (by kernel_rfl) (by kernel_rfl) (fun _ _ _ h => h) (Or.inl ⟨by rfl, ?_⟩) (by assumption) ?_
    rotate_left
    · intro w2 hSw
      (try dsimp only at hSw)
      (try (obtain ⟨s0, s1, s2, s3⟩ := hSw))
      go_simp
      (try (with_reducible rfl))
    (try simp only [Act.put, lga, lgz, lgs, lsa, lsz, lss])
    refine wpAnyH_ready (rs := [9]) (by decide +kernel) (by simp) ?_
    refine AllReadyH.cons rfl (fun K hK => ?_) (AllReadyH.nil)
    (try simp only [lga, lgz, lgs])
    (go_simp)
    refine hK.out _ _ ?_ (fun hHeld => ?_)
    · exact s4_of (show Row _ w1.heap.size #[.int .i64 x, .int .i64 y] from (by exact ra)) (show Row _ w.heap.size #[.int .i64 bx, .int .i64 bz] from (by exact ra))
    clear hK K
    (try simp only [Act.put, lga, lgz, lgs, lsa, lsz, lss])
    refine wpAnyH_take (i := 10) (v := ?_) rfl (by kernel_rfl) (by kernel_rfl) (by kernel_rfl) (fun _ _ _ h => h) (Or.inl ⟨by rfl, ?_⟩) (by assumption) ?_
    rotate_left
    · intro w2 hSw
      (try dsimp only at hSw)
      (try (obtain ⟨s0, s1, s2, s3⟩ := hSw))
      go_simp
      (try (with_reducible rfl))
    (try simp only [Act.put, lga, lgz, lgs, lsa, lsz, lss])
    refine wpAnyH_done (by kernel_rfl) ?_ _
    (try dsimp only)
    generalize hW : World.setCell (World.setCell _ _ _) _ _ = wR
    have R7 : Row wR (w1.heap.size + 1) #[.int .i64 tx, .int .i64 tz] := by rw [← hW]; exact (by exact ro)
    have uR : Up w wR := by rw [← hW]; exact (show Chg [] w _ from by (repeat' (first | (with_reducible first | exact Chg.refl _ _ | assumption | refine Chg.alloc ?_ _ | refine Chg.drew ?_ | refine Chg.drewN ?_ _ | refine Chg.setCell ?_ ?_ _ | refine Chg.upc ?_ (by assumption) | refine Chg.call ?_ (by assumption) ?_) | (refine Or.inl ?_; (simp; done)) | (simp; done) | (simp; omega) | omega))).up
    have zR := uR.size
    have lR7 := R7.lt; have cR7_0 := R7.cell 0 rfl; have fR7_0 := R7.free 0; have cR7_1 := R7.cell 1 rfl; have fR7_1 := R7.free 1
    clear hW hHeld
    go_wp2
    refine wp_region_held_drew (S := fun w' => Row w' (w1.heap.size + 1) #[.int .i64 tx, .int .i64 tz]) (by kernel_rfl) ?_ (fun hHeld => ?_)
    · exact Row.drew R7
    refine wpAnyH_take (i := 0) (v := ?_) rfl (by kernel_rfl) (by kernel_rfl) (by kernel_rfl) (fun _ _ _ h => h) (Or.inl ⟨by rfl, ?_⟩) (by assumption) ?_
    rotate_left
    · intro w2 hSw
      (try dsimp only at hSw)
      (try (obtain ⟨hs1, hs2, hs3⟩ := hSw))
      go_simp
      (try (with_reducible rfl))
    (try simp only [Act.put, lga, lgz, lgs, lsa, lsz, lss])
    refine wpAnyH_take (i := 2) rfl (by kernel_rfl) (by kernel_rfl) (by kernel_rfl) (fun _ _ _ h => h) (yieldsIf_load_mid (by rfl) 24 (.tmp 7) rfl (w1.heap.size + 1) 0 rfl #[.int .i64 tx, .int .i64 tz].toList _ (fun _ h => rng0 h) Tryd.underlying24 rfl (by exact infoP)) (by assumption) ?_
    (try simp only [Act.put, lga, lgz, lgs, lsa, lsz, lss])
    refine wpAnyH_ready (rs := [1]) (by decide +kernel) (by simp) ?_
    refine AllReadyH.cons rfl (fun K hK => ?_) (AllReadyH.nil)
    (try simp only [lga, lgz, lgs])
    (go_simp; go_at_call 16; (with_reducible refine (path_calls g p _ (Row.cell (show Row _ g (gsC C 65536 (.slice none 0 0) 0 F FM dk p 2 n) from Row.drew (HG.out.up uR)) 26 rfl)).mono ?_); rintro E wx ⟨rfl, rfl⟩; (try dsimp only))
    refine hK.out _ _ ?_ (fun hHeld => ?_)
    · exact hHeld
    clear hK K
    (try simp only [Act.put, lga, lgz, lgs, lsa, lsz, lss])
    refine wpAnyH_ready (rs := [3]) (by decide +kernel) (by simp) ?_
    refine AllReadyH.cons rfl (fun K hK => ?_) (AllReadyH.nil)
    (try simp only [lga, lgz, lgs])
    (go_simp; go_at_call 25; (with_reducible refine (Path.move_onto p pv T tx tz _ (Path.PathIs.up (w := wR) (HP.out.up uR) (Up.drew (Up.refl _))) HLK.out).mono ?_); rw [HTM.out]; rintro E w7 ⟨rfl, hl7⟩; have HL7 := Lib.hid (Path.Left.of_up (show Up w _ from Up.drew uR) hl7); (try dsimp only))
    refine hK.out _ _ ?_ (fun hHeld => ?_)
    · exact (let ⟨_, _, hc7, _⟩ := hl7; Row.chg hHeld hc7 (fun hk => by rcases List.mem_cons.1 hk with h1 | h1; (have := HLP.out; omega); (have := HLV.out _ h1; omega)))
    clear hK K
    (try simp only [Act.put, lga, lgz, lgs, lsa, lsz, lss])
    refine wpAnyH_take (i := 4) (v := ?_) rfl (by kernel_rfl) (by kernel_rfl) (by kernel_rfl) (fun _ _ _ h => h) (Or.inl ⟨by rfl, ?_⟩) (by assumption) ?_
    rotate_left
    · intro w2 hSw
      (try dsimp only at hSw)
      (try (obtain ⟨hs1, hs2, hs3⟩ := hSw))
      go_simp
      (try (with_reducible rfl))
    (try simp only [Act.put, lga, lgz, lgs, lsa, lsz, lss])
    refine wpAnyH_done (by kernel_rfl) ?_ _
    clear hHeld
    go_wp2
    go_ret
    exact ⟨rfl, HL7.out⟩

/-- what on does at a place -/
theorem on_calls (g p c : Nat) (C : M6) (F : Int) (FM : M6) (dk : Bool) (n : Int) (pv v : Value) (l : List Cl) (x y bx bz : Int) (w : World) (h : Prg w g p c C F FM dk n pv v (T1 n x y) l) :
    Calls Tryd.prog 38 #[.pointer (some ⟨g, 0, none⟩), .agg #[.int .i64 bx, .int .i64 bz]] w fun E w' => E = .returned (.int .i64 (movedR C x y bx bz).2) ∧
      Shown w g p c C F FM dk n pv v l (if (movedR C x y bx bz).2 = 0 then T1 n (movedR C x y bx bz).1.1 (movedR C x y bx bz).1.2 else T1 n x y) [] w' := by
  obtain ⟨⟨⟨tx, tz⟩, te⟩, hM⟩ : ∃ X, movedR C x y bx bz = X := ⟨_, rfl⟩
  have hfp : fitsP (tx, tz) = true := by have := moved_fits C x y bx bz; rwa [hM] at this
  have hmv := move_T1 n x y tx tz hfp
  rw [hM]
  by_cases ht : te = 0
  · subst ht
    refine (on_good g p C F FM dk n pv _ x y bx bz tx tz w h.rg h.pa (cur_T1 n x y) hM (last_T1 n x y) (by rw [hmv])).mono ?_
    rintro E w' ⟨rfl, hl⟩
    rw [hmv] at hl
    rw [if_pos rfl]
    exact ⟨rfl, Shown.moved h hl⟩
  · refine (on_bad g p C F FM dk n pv _ x y bx bz tx tz w h.rg h.pa (cur_T1 n x y) te hM ht).mono ?_
    rintro E w' ⟨rfl, hu⟩
    rw [if_neg ht]
    exact ⟨rfl, Shown.same h hu⟩

end Go.Proofs.YtjdbefpfjhdmoaaDoor.Sh
end

section
namespace Go.Proofs.YtjdbefpfjhdmoaaDoor.Sh
open Go.Proofs.YtjdbefpfjhdmoaaDoor.ZGH
open Go.ChangeShapes Go.WideShapes Go.ChangeAt Go.RowKit
open Go.Proofs.YtjdbefpfjhdmoaaDoor.Gs
open Go.Proofs.YtjdbefpfjhdmoaaDoor.MatM (M6)
open Go.Proofs.YtjdbefpfjhdmoaaDoor.PathM
set_option linter.unusedVariables false
set_option linter.unusedSimpArgs false

theorem at_op {P : Program} {ops : Array Oper} {rest : List Oper} {o : Oper} {a : Act} {w : World} {Q : Exit → Act → World → Prop} (op : Op) (ho : o.op = op) (h : wpList P ops Q (o :: rest) a w) : wpList P ops Q (o :: rest) a w := h
/-- what Spaced does: the error, the place, what is shown -/
def spR (C : M6) (F : Int) (FM : M6) (dk : Bool) (a o : Int × Int) (letter : Int) : Int × Int → List Int → Int × (Int × Int) × List It
  | q, [] => (0, q, [])
  | q, b :: bs =>
    if (letR C F FM dk q.1 q.2 [b]).1 ≠ 0 then ((letR C F FM dk q.1 q.2 [b]).1, q, [])
    else if (movedR C (letR C F FM dk q.1 q.2 [b]).2.1.1 (letR C F FM dk q.1 q.2 [b]).2.1.2 a.1 a.2).2 ≠ 0 then ((movedR C (letR C F FM dk q.1 q.2 [b]).2.1.1 (letR C F FM dk q.1 q.2 [b]).2.1.2 a.1 a.2).2, (letR C F FM dk q.1 q.2 [b]).2.1, (letR C F FM dk q.1 q.2 [b]).2.2)
    else if b = letter then
      if (movedR C (movedR C (letR C F FM dk q.1 q.2 [b]).2.1.1 (letR C F FM dk q.1 q.2 [b]).2.1.2 a.1 a.2).1.1 (movedR C (letR C F FM dk q.1 q.2 [b]).2.1.1 (letR C F FM dk q.1 q.2 [b]).2.1.2 a.1 a.2).1.2 o.1 o.2).2 ≠ 0 then ((movedR C (movedR C (letR C F FM dk q.1 q.2 [b]).2.1.1 (letR C F FM dk q.1 q.2 [b]).2.1.2 a.1 a.2).1.1 (movedR C (letR C F FM dk q.1 q.2 [b]).2.1.1 (letR C F FM dk q.1 q.2 [b]).2.1.2 a.1 a.2).1.2 o.1 o.2).2, (movedR C (letR C F FM dk q.1 q.2 [b]).2.1.1 (letR C F FM dk q.1 q.2 [b]).2.1.2 a.1 a.2).1, (letR C F FM dk q.1 q.2 [b]).2.2)
      else ((spR C F FM dk a o letter (movedR C (movedR C (letR C F FM dk q.1 q.2 [b]).2.1.1 (letR C F FM dk q.1 q.2 [b]).2.1.2 a.1 a.2).1.1 (movedR C (letR C F FM dk q.1 q.2 [b]).2.1.1 (letR C F FM dk q.1 q.2 [b]).2.1.2 a.1 a.2).1.2 o.1 o.2).1 bs).1, (spR C F FM dk a o letter (movedR C (movedR C (letR C F FM dk q.1 q.2 [b]).2.1.1 (letR C F FM dk q.1 q.2 [b]).2.1.2 a.1 a.2).1.1 (movedR C (letR C F FM dk q.1 q.2 [b]).2.1.1 (letR C F FM dk q.1 q.2 [b]).2.1.2 a.1 a.2).1.2 o.1 o.2).1 bs).2.1, (letR C F FM dk q.1 q.2 [b]).2.2 ++ (spR C F FM dk a o letter (movedR C (movedR C (letR C F FM dk q.1 q.2 [b]).2.1.1 (letR C F FM dk q.1 q.2 [b]).2.1.2 a.1 a.2).1.1 (movedR C (letR C F FM dk q.1 q.2 [b]).2.1.1 (letR C F FM dk q.1 q.2 [b]).2.1.2 a.1 a.2).1.2 o.1 o.2).1 bs).2.2)
    else ((spR C F FM dk a o letter (movedR C (letR C F FM dk q.1 q.2 [b]).2.1.1 (letR C F FM dk q.1 q.2 [b]).2.1.2 a.1 a.2).1 bs).1, (spR C F FM dk a o letter (movedR C (letR C F FM dk q.1 q.2 [b]).2.1.1 (letR C F FM dk q.1 q.2 [b]).2.1.2 a.1 a.2).1 bs).2.1, (letR C F FM dk q.1 q.2 [b]).2.2 ++ (spR C F FM dk a o letter (movedR C (letR C F FM dk q.1 q.2 [b]).2.1.1 (letR C F FM dk q.1 q.2 [b]).2.1.2 a.1 a.2).1 bs).2.2)
section
variable {C : M6} {F : Int} {FM : M6} {dk : Bool} {a o : Int × Int} {letter b re rx ry mx mz me kx kz ke : Int} {q : Int × Int} {bs : List Int} {ri : List It}
theorem spR_a (hL : letR C F FM dk q.1 q.2 [b] = (re, (rx, ry), ri)) (h : re ≠ 0) : spR C F FM dk a o letter q (b :: bs) = (re, q, []) := by
  unfold spR; rw [hL]; rw [if_pos h]
theorem spR_b (hL : letR C F FM dk q.1 q.2 [b] = (re, (rx, ry), ri)) (h : re = 0) (hM : movedR C rx ry a.1 a.2 = ((mx, mz), me)) (h2 : me ≠ 0) : spR C F FM dk a o letter q (b :: bs) = (me, (rx, ry), ri) := by
  subst h
  unfold spR; rw [hL]; dsimp only; rw [hM, if_neg (by decide), if_pos h2]
theorem spR_c (hL : letR C F FM dk q.1 q.2 [b] = (re, (rx, ry), ri)) (h : re = 0) (hM : movedR C rx ry a.1 a.2 = ((mx, mz), me)) (h2 : me = 0) (h3 : ¬ b = letter) : spR C F FM dk a o letter q (b :: bs) = ((spR C F FM dk a o letter (mx, mz) bs).1, (spR C F FM dk a o letter (mx, mz) bs).2.1, ri ++ (spR C F FM dk a o letter (mx, mz) bs).2.2) := by
  subst h h2
  rw [spR]; rw [hL]; dsimp only; rw [hM, if_neg (by decide), if_neg (fun h => h rfl), if_neg h3]
theorem spR_d (hL : letR C F FM dk q.1 q.2 [b] = (re, (rx, ry), ri)) (h : re = 0) (hM : movedR C rx ry a.1 a.2 = ((mx, mz), me)) (h2 : me = 0) (h3 : b = letter) (hK : movedR C mx mz o.1 o.2 = ((kx, kz), ke)) (h4 : ke ≠ 0) : spR C F FM dk a o letter q (b :: bs) = (ke, (mx, mz), ri) := by
  subst h h2
  rw [spR]; rw [hL]; dsimp only; rw [hM, if_neg (by decide), if_neg (fun h => h rfl), if_pos h3]; dsimp only; rw [hK, if_pos h4]
theorem spR_e (hL : letR C F FM dk q.1 q.2 [b] = (re, (rx, ry), ri)) (h : re = 0) (hM : movedR C rx ry a.1 a.2 = ((mx, mz), me)) (h2 : me = 0) (h3 : b = letter) (hK : movedR C mx mz o.1 o.2 = ((kx, kz), ke)) (h4 : ke = 0) : spR C F FM dk a o letter q (b :: bs) = ((spR C F FM dk a o letter (kx, kz) bs).1, (spR C F FM dk a o letter (kx, kz) bs).2.1, ri ++ (spR C F FM dk a o letter (kx, kz) bs).2.2) := by
  subst h h2 h4
  rw [spR]; rw [hL]; dsimp only; rw [hM, if_neg (by decide), if_neg (fun h => h rfl), if_pos h3]; dsimp only; rw [hK, if_neg (fun h => h rfl)]
theorem let_err {x y : Int} {zs : List Int} (h : (letR C F FM dk x y zs).1 ≠ 0) : (letR C F FM dk x y zs).2 = ((x, y), []) := by
  unfold letR at h ⊢
  split
  · rfl
  · rename_i h1
    rw [if_neg h1] at h
    split
    · rfl
    · rename_i h2
      rw [if_neg h2] at h
      split
      · rfl
      · rename_i h3
        rw [if_neg h3] at h
        split
        · rename_i h4
          rw [if_pos h4] at h
          split
          · rfl
          · rename_i h5
            rw [if_neg h5] at h
            exact absurd rfl h
        · rename_i h4
          rw [if_neg h4] at h
          exact absurd rfl h
theorem let_one {x y : Int} {zs : List Int} : (letR C F FM dk x y zs).2.2.length ≤ 1 := by
  unfold letR
  split
  · simp
  · split
    · simp
    · split
      · simp
      · split
        · split
          · simp
          · simp
        · simp
end
section
variable {w w1 w2 : World} {g p c : Nat} {C : M6} {F : Int} {FM : M6} {dk : Bool} {n : Int} {pv v : Value} {T : St} {l : List Cl}
/-- one behind the other -/
theorem Shown.more {T2 : St} {i1 i2 : List It} {pv1 v1 : Value} {l1 : List Cl} (a2 : l1.map (·.it) = l.map (·.it) ++ i1) (a3 : Chg (p :: c :: (own pv ++ own v)) w w1) (a4 : ∀ b ∈ own pv1 ++ own v1, b ∈ own pv ++ own v ∨ w.heap.size ≤ b) (a5 : ∀ b ∈ bys l1, b ∈ bys l ∨ w.heap.size ≤ b)
    (h2 : Shown w1 g p c C F FM dk n pv1 v1 l1 T2 i2 w2) : Shown w g p c C F FM dk n pv v l T2 (i1 ++ i2) w2 := by
  obtain ⟨pv2, v2, l2, b1, b2, b3, b4, b5⟩ := h2
  have hz := a3.size
  refine ⟨pv2, v2, l2, b1, by rw [b2, a2, List.append_assoc], a3.call b3 (fun k hk => ?_), fun b hb => ?_, fun b hb => ?_⟩
  · simp only [List.mem_cons] at hk ⊢
    rcases hk with h1 | h1 | h1
    · exact Or.inl (Or.inl h1)
    · exact Or.inl (Or.inr (Or.inl h1))
    · exact (a4 k h1).imp (fun h => Or.inr (Or.inr h)) id
  · rcases b4 b hb with h1 | h1
    · exact a4 b h1
    · exact Or.inr (by omega)
  · rcases b5 b hb with h1 | h1
    · exact a5 b h1
    · exact Or.inr (by omega)
end
theorem ints_one {w : World} {g o c : Nat} {z : Int} (hb : g < w.heap.size) (hc : w.cell? ⟨g, o, none⟩ = some (.int .u8 z)) (hw : (Lit.int .u8 z).wf = true) (h1 : 1 ≤ c) (h2 : c ≤ 9223372036854775807) : Ints .u8 w (.slice (some ⟨g, o, none⟩) 1 c) [z] :=
  ⟨some ⟨g, o, none⟩, c, rfl, h1, h2, fun e => (by cases e), fun _ => ⟨g, o, rfl, hb, fun i hi => by
    have : i = 0 := by simp at hi; omega
    subst this
    exact hc⟩, fun y hy => by rw [List.mem_singleton.1 hy]; exact hw⟩
/-- behind what was shown: more -/
theorem show_from {w w1 : World} (g p c : Nat) (C : M6) (F : Int) (FM : M6) (dk : Bool) (n : Int) (pv v : Value) (l : List Cl) (x y : Int) (its : List It) (ba : Option Addr) (bc N : Nat) (bs : List Int) (hN : bs.length = N) (h : Shown w g p c C F FM dk n pv v l (T1 n x y) its w1)
    (hxy : fitsP (x, y) = true) (hv : Ints .u8 w1 (.slice ba N bc) bs) (hl : N ≤ 65535) (hln : l.length + its.length < 4096) (hF1 : F < 14) (h4 : (Lit.int .i64 C.x).wf = true) (h5 : (Lit.int .i64 C.y).wf = true) (hT : Font.Tab w1) :
    Calls Tryd.prog 11 #[.pointer (some ⟨c, 0, none⟩), .pointer (some ⟨g, 0, none⟩), .slice ba N bc] w1 fun E w' =>
      E = .returned (.int .i64 (letR C F FM dk x y bs).1) ∧ Shown w g p c C F FM dk n pv v l (T1 n (letR C F FM dk x y bs).2.1.1 (letR C F FM dk x y bs).2.1.2) (its ++ (letR C F FM dk x y bs).2.2) w' := by
  subst hN
  obtain ⟨pv1, v1, l1, a1, a2, a3, a4, a5⟩ := h
  refine (show_calls g p c C F FM dk n pv1 v1 l1 x y ba bc bs w1 a1 hxy hv hl (by have := congrArg List.length a2; simp at this; omega) hF1 h4 h5 hT).mono ?_
  rintro E w' ⟨rfl, hs⟩
  exact ⟨rfl, Shown.more a2 a3 a4 a5 hs⟩
theorem on_from {w w1 : World} (g p c : Nat) (C : M6) (F : Int) (FM : M6) (dk : Bool) (n : Int) (pv v : Value) (l : List Cl) (x y bx bz : Int) (its : List It) (h : Shown w g p c C F FM dk n pv v l (T1 n x y) its w1) :
    Calls Tryd.prog 38 #[.pointer (some ⟨g, 0, none⟩), .agg #[.int .i64 bx, .int .i64 bz]] w1 fun E w' => E = .returned (.int .i64 (movedR C x y bx bz).2) ∧
      Shown w g p c C F FM dk n pv v l (if (movedR C x y bx bz).2 = 0 then T1 n (movedR C x y bx bz).1.1 (movedR C x y bx bz).1.2 else T1 n x y) its w' := by
  obtain ⟨pv1, v1, l1, a1, a2, a3, a4, a5⟩ := h
  refine (on_calls g p c C F FM dk n pv1 v1 l1 x y bx bz w1 a1).mono ?_
  rintro E w' ⟨rfl, hs⟩
  have := Shown.more a2 a3 a4 a5 hs
  rw [List.append_nil] at this
  exact ⟨rfl, this⟩
theorem shown_chg {w w1 : World} {g p c : Nat} {C : M6} {F : Int} {FM : M6} {dk : Bool} {n : Int} {pv v : Value} {T : St} {l : List Cl} {its : List It} (h : Shown w g p c C F FM dk n pv v l T its w1) : Chg (p :: c :: (own pv ++ own v)) w w1 := by
  obtain ⟨_, _, _, _, _, h3, _⟩ := h
  exact h3
theorem drop_at {bs : List Int} {k : Nat} {b : Int} (h : bs[k]? = some b) : bs.drop k = b :: bs.drop (k + 1) := by
  have h1 := (List.getElem?_eq_some_iff.1 h)
  rw [List.drop_eq_getElem_cons h1.1, h1.2]

theorem ints_cap {k : IntKind} {w : World} {a : Option Addr} {N c : Nat} {zs : List Int} (h : Ints k w (.slice a N c) zs) (hN : zs.length = N) : N ≤ c ∧ c ≤ 9223372036854775807 := by
  obtain ⟨ao, c', e, hl, hm, _⟩ := h
  injection e with _ _ e3
  subst e3
  exact ⟨by omega, hm⟩
theorem ints_some {k : IntKind} {w : World} {a : Option Addr} {N c : Nat} {zs : List Int} (h : Ints k w (.slice a N c) zs) (hN : zs.length = N) (h0 : 0 < N) : ∃ g o, a = some ⟨g, o, none⟩ ∧ g < w.heap.size ∧ ∀ i, i < N → w.cell? ⟨g, o + i, none⟩ = some (.int k (zs.getD i 0)) := by
  obtain ⟨ao, c', e, hl, hm, hno, h1, hw⟩ := h
  injection e with e1 e2 e3
  subst e1 e3
  obtain ⟨g, o, h2, h3, h4⟩ := h1 (by omega)
  exact ⟨g, o, h2, h3, fun i hi => h4 i (by omega)⟩
theorem Prg.mut_ltP {w : World} {g p c : Nat} {C : M6} {F : Int} {FM : M6} {dk : Bool} {n : Int} {pv v : Value} {T : St} {l : List Cl} (h : Prg w g p c C F FM dk n pv v T l) : ∀ b ∈ p :: c :: (own pv ++ own v), b < w.heap.size := fun b hb => by
  simp only [List.mem_cons, List.mem_append] at hb
  rcases hb with rfl | rfl | hb | hb
  · exact h.pa.row.lt
  · exact h.cv.row.lt
  · exact pv_lt h.pa b hb
  · exact own_lt h.cv.its b hb
set_option maxRecDepth 8000 in
set_option maxHeartbeats 8000000 in
theorem spaced_calls (g p c : Nat) (C : M6) (F : Int) (FM : M6) (dk : Bool) (n : Int) (pv v : Value) (l : List Cl) (x y ax ay ox oy letter : Int) (ba : Option Addr) (bc N : Nat) (bs : List Int) (hN : bs.length = N) (w : World) (h : Prg w g p c C F FM dk n pv v (T1 n x y) l)
    (hxy : fitsP (x, y) = true) (hv : Ints .u8 w (.slice ba N bc) bs) (hl : N ≤ 300) (hln : l.length ≤ 100) (hF0 : ¬ F < 0) (hF1 : F < 14) (h4 : (Lit.int .i64 C.x).wf = true) (h5 : (Lit.int .i64 C.y).wf = true)
    (hT : ∀ w', Chg (p :: c :: (own pv ++ own v)) w w' → Font.Tab w') (hoff : 0 < N → ∀ b ∈ own (.slice ba N bc), b ∉ p :: c :: (own pv ++ own v)) :
    Calls Tryd.prog 12 #[.pointer (some ⟨c, 0, none⟩), .pointer (some ⟨g, 0, none⟩), .slice ba N bc, .agg #[.int .i64 ax, .int .i64 ay], .agg #[.int .i64 ox, .int .i64 oy], .int .i64 letter] w fun E w' =>
      E = .returned (.int .i64 (spR C F FM dk (ax, ay) (ox, oy) letter (x, y) bs).1) ∧ Shown w g p c C F FM dk n pv v l (T1 n (spR C F FM dk (ax, ay) (ox, oy) letter (x, y) bs).2.1.1 (spR C F FM dk (ax, ay) (ox, oy) letter (x, y) bs).2.1.2) (spR C F FM dk (ax, ay) (ox, oy) letter (x, y) bs).2.2 w' := by
  have HH := Lib.hid h
  have HR := Lib.hid (show placeR F (T1 n x y) = ((x, y), 0) by unfold placeR; rw [if_neg hF0]; rfl)
  have HN := Lib.hid hN
  have HV := Lib.hid hv
  have HT := Lib.hid hT
  have HXY := Lib.hid hxy
  have HOF := Lib.hid hoff
  have HLS := Lib.hid (fun b hb => h.mut_ltP b hb)
  clear h hN hv hT hxy hoff
  go_enter Tryd.func12, Tryd.ntmps12
  go_wp2_with (first
    | (go_at_call 33; ((with_reducible refine (ready_calls g C 65536 0 F FM dk p 2 n pv _ _ (HH.out.up (show Up w _ by exact ua)).rg (HH.out.up (show Up w _ by exact ua)).pa).mono ?_); rw [HR.out]; rintro E w1 ⟨⟨gc, hg1, rfl⟩, hu1⟩; have z1 := hu1.size; (try simp at z1); have R9_w1 : Row w1 w.heap.size #[.int .i64 ax, .int .i64 ay] := Row.up (show Row _ w.heap.size #[.int .i64 ax, .int .i64 ay] by exact ra) hu1; have R10_w1 : Row w1 (w.heap.size + 1) #[.int .i64 ox, .int .i64 oy] := Row.up (show Row _ (w.heap.size + 1) #[.int .i64 ox, .int .i64 oy] by exact ra) hu1; have HU1 := Lib.hid (show Up w w1 by exact ua)))
    | ((refine at_op (.store 74 (.tmp 13) _) rfl ?_); (refine wpList_store_Row rfl 74 (.tmp 13) _ rfl w1.heap.size #[.int .i64 C.a, .int .i64 C.b, .int .i64 C.c, .int .i64 C.d, .int .i64 C.x, .int .i64 C.y, .int .i64 1, .int .i64 0, .int .i64 0, .int .i64 0, .int .i64 0, .int .i64 65536, .int .i64 0, .int .i64 0, .int .i64 655360, .slice none 0 0, .int .i64 0, .int .i64 F, .int .i64 FM.a, .int .i64 FM.b, .int .i64 FM.c, .int .i64 FM.d, .int .i64 FM.x, .int .i64 FM.y, .slice (some ⟨gc, 0, none⟩) 0 0, .bool dk] rfl rfl #[.int .i64 0, .int .i64 0, .int .i64 0, .int .i64 0, .int .i64 0, .int .i64 0, .int .i64 0, .int .i64 0, .int .i64 0, .int .i64 0, .int .i64 0, .int .i64 0, .int .i64 0, .int .i64 0, .int .i64 0, .slice none 0 0, .int .i64 0, .int .i64 0, .int .i64 0, .int .i64 0, .int .i64 0, .int .i64 0, .int .i64 0, .int .i64 0, .slice none 0 0, .bool false] (by exact ra) infoSt rfl rfl (by simp [Value.oneCell']) ?_); intro w2 hr2 hc2; have z2 := hc2.size; (try simp at z2); have RP2 : Row w2 (w1.heap.size + 1) #[.int .i64 0, .int .i64 0] := (by exact ra); have lp2 := RP2.lt; have p2_0 : w2.cell? ⟨w1.heap.size + 1, 0, none⟩ = some (.int .i64 0) := RP2.cell 0 rfl; have p2_1 : w2.cell? ⟨w1.heap.size + 1, 1, none⟩ = some (.int .i64 0) := RP2.cell 1 rfl; have pf2_0 := RP2.free 0; have pf2_1 := RP2.free 1))
  go_loopw [38] (fun s38 wr => ∃ k : Nat, ∃ qx qy its, k ≤ N ∧ s38 = .int .i64 k ∧ Hid (Shown w1 g p c C F FM dk n pv v l (T1 n qx qy) its wr) ∧ Hid (fitsP (qx, qy) = true) ∧ Hid (its.length ≤ k) ∧ Hid (spR C F FM dk (ax, ay) (ox, oy) letter (x, y) bs = ((spR C F FM dk (ax, ay) (ox, oy) letter (qx, qy) (bs.drop k)).1, (spR C F FM dk (ax, ay) (ox, oy) letter (qx, qy) (bs.drop k)).2.1, its ++ (spR C F FM dk (ax, ay) (ox, oy) letter (qx, qy) (bs.drop k)).2.2))) (fun s38 _ => N - (intOf s38).toNat)
  case atStart => exact ⟨0, x, y, [], Nat.zero_le _, rfl, Lib.hid (Shown.same (HH.out.up HU1.out) ((show Chg [] w1 _ from (by (repeat' (first | (with_reducible first | exact Chg.refl _ _ | assumption | refine Chg.alloc ?_ _ | refine Chg.drew ?_ | refine Chg.drewN ?_ _ | refine Chg.setCell ?_ ?_ _ | refine Chg.upc ?_ (by assumption) | refine Chg.call ?_ (by assumption) ?_) | (refine Or.inl ?_; (simp; done)) | (simp; done) | (simp; omega) | omega)))).up)), HXY, Lib.hid (by simp), Lib.hid (by simp)⟩
  case round =>
    obtain ⟨k, qx, qy, its, hk, rfl, HSR, HFQ, HIL, HEQ⟩ := hrel
    have hcr := shown_chg HSR.out
    have hzr := hcr.size
    by_cases hlt : k < N
    · obtain ⟨b, hb⟩ : ∃ b, bs[k]? = some b := ⟨_, List.getElem?_eq_getElem (by have := HN.out; omega)⟩
      obtain ⟨gb, ob, rfl, hgb, hcb⟩ := ints_some HV.out HN.out (by omega)
      have hcm := List.mem_of_getElem? hb
      have hwf := HV.out.wf b hcm
      have hbc : N ≤ bc ∧ bc ≤ 9223372036854775807 := ints_cap HV.out HN.out
      obtain ⟨hbc1, hbc2⟩ := hbc
      have hcw : Chg (p :: c :: (own pv ++ own v)) w wr := ((Chg.of_up HU1.out).call hcr (fun k hk => Or.inl hk))
      have hq : wr.cell? ⟨gb, ob + k, none⟩ = some (.int .u8 b) := by
        rw [hcw.cells.1 gb _ hgb (HOF.out (by omega) gb (by simp [own, Value.ownBlock])), hcb k hlt]
        have : bs.getD k 0 = b := by rw [List.getD_eq_getElem?_getD, hb]; rfl
        rw [this]
      have HTR := Lib.hid (HT.out wr hcw)
      have HBG := Lib.hid (show gb < wr.heap.size from Nat.lt_of_lt_of_le hgb hcw.size)
      have HCB := Lib.hid hq
      have HWB := Lib.hid hwf
      have HD := Lib.hid (drop_at hb)
      have hwrap : IntKind.i64.wrap b = b := by have := bounds_u8 hwf; exact wrap_small (by omega) (by omega)
      have hlg := HBG.out
      obtain ⟨⟨re, ⟨rx, ry⟩, ri⟩, hL⟩ : ∃ X, letR C F FM dk qx qy [b] = X := ⟨_, rfl⟩
      obtain ⟨⟨⟨mx, mz⟩, me⟩, hM⟩ : ∃ X, movedR C rx ry ax ay = X := ⟨_, rfl⟩
      obtain ⟨⟨⟨kx, kz⟩, ke⟩, hK⟩ : ∃ X, movedR C mx mz ox oy = X := ⟨_, rfl⟩
      have HL := Lib.hid hL
      have HM := Lib.hid hM
      have HK := Lib.hid hK
      have HRL := Lib.hid (show ri.length ≤ 1 by have := let_one (C := C) (F := F) (FM := FM) (dk := dk) (x := qx) (y := qy) (zs := [b]); rwa [hL] at this)
      have HF1 := Lib.hid (show fitsP (mx, mz) = true by have := moved_fits C rx ry ax ay; rwa [hM] at this)
      have HF2 := Lib.hid (show fitsP (kx, kz) = true by have := moved_fits C mx mz ox oy; rwa [hK] at this)
      have HLE := Lib.hid (show re ≠ 0 → ((rx, ry), ri) = ((qx, qy), []) by
        intro h
        have := let_err (C := C) (F := F) (FM := FM) (dk := dk) (x := qx) (y := qy) (zs := [b]) (by rw [hL]; exact h)
        rwa [hL] at this)
      clear hcm hwf hb hcb hL hM hK hcw hcr
      by_cases hre : re = 0
      rotate_left
      · have t1 : (re == 0) = false := by simpa using hre
        have HRE := Lib.hid hre
        clear hre
        go_wp2_with (go_at_call 11; ((with_reducible refine (show_from g p c C F FM dk n pv v l qx qy its _ _ 1 [b] rfl HSR.out HFQ.out (ints_one HBG.out HCB.out HWB.out (by omega) (by omega)) (by decide) (by have := HIL.out; omega) hF1 h4 h5 HTR.out).mono ?_); rw [HL.out]; rintro E w4 ⟨rfl, hs4⟩; have hc4 := shown_chg hs4; have z4 := hc4.size; have R9_w4 : Row w4 w.heap.size #[.int .i64 ax, .int .i64 ay] := R9_w1.chg hc4 (fun hk => by have := HLS.out _ hk; omega); have c9_0 : w4.cell? ⟨w.heap.size, 0, none⟩ = some (.int .i64 ax) := R9_w4.cell 0 rfl; have c9_1 : w4.cell? ⟨w.heap.size, 1, none⟩ = some (.int .i64 ay) := R9_w4.cell 1 rfl; have l9 := R9_w4.lt; have HS4 := Lib.hid hs4; clear hs4 hc4))
        go_ret
        refine ⟨?_, Shown.of_up HU1.out (show Shown w1 g p c C F FM dk n pv v l (T1 n (spR C F FM dk (ax, ay) (ox, oy) letter (x, y) bs).2.1.1 (spR C F FM dk (ax, ay) (ox, oy) letter (x, y) bs).2.1.2) (spR C F FM dk (ax, ay) (ox, oy) letter (x, y) bs).2.2 _ from ?_)⟩
        · rw [HEQ.out, HD.out, spR_a (q := (qx, qy)) (a := (ax, ay)) (o := (ox, oy)) (letter := letter) HL.out HRE.out]; rfl
        · rw [HEQ.out, HD.out, spR_a (q := (qx, qy)) (a := (ax, ay)) (o := (ox, oy)) (letter := letter) HL.out HRE.out]; exact (by have h1 := HS4.out; have h2 := HLE.out HRE.out; simp only [Prod.mk.injEq] at h2; obtain ⟨⟨rfl, rfl⟩, rfl⟩ := h2; exact h1)
      · have HRE := Lib.hid hre
        subst hre
        by_cases hme : me = 0
        rotate_left
        · have t2 : (me == 0) = false := by simpa using hme
          have HME := Lib.hid hme
          clear hme
          go_wp2_with (first
            | (go_at_call 11; ((with_reducible refine (show_from g p c C F FM dk n pv v l qx qy its _ _ 1 [b] rfl HSR.out HFQ.out (ints_one HBG.out HCB.out HWB.out (by omega) (by omega)) (by decide) (by have := HIL.out; omega) hF1 h4 h5 HTR.out).mono ?_); rw [HL.out]; rintro E w4 ⟨rfl, hs4⟩; have hc4 := shown_chg hs4; have z4 := hc4.size; have R9_w4 : Row w4 w.heap.size #[.int .i64 ax, .int .i64 ay] := R9_w1.chg hc4 (fun hk => by have := HLS.out _ hk; omega); have c9_0 : w4.cell? ⟨w.heap.size, 0, none⟩ = some (.int .i64 ax) := R9_w4.cell 0 rfl; have c9_1 : w4.cell? ⟨w.heap.size, 1, none⟩ = some (.int .i64 ay) := R9_w4.cell 1 rfl; have l9 := R9_w4.lt; have HS4 := Lib.hid hs4; clear hs4 hc4))
            | (go_at_call 38; ((with_reducible refine (on_from g p c C F FM dk n pv v l rx ry ax ay _ HS4.out).mono ?_); rw [HM.out]; rintro E w5 ⟨rfl, hs5⟩; have hc5 := shown_chg hs5; have z5 := hc5.size; have R10_w5 : Row w5 (w.heap.size + 1) #[.int .i64 ox, .int .i64 oy] := R10_w1.chg hc5 (fun hk => by have := HLS.out _ hk; omega); have c10_0 : w5.cell? ⟨w.heap.size + 1, 0, none⟩ = some (.int .i64 ox) := R10_w5.cell 0 rfl; have c10_1 : w5.cell? ⟨w.heap.size + 1, 1, none⟩ = some (.int .i64 oy) := R10_w5.cell 1 rfl; have l10 := R10_w5.lt; have HS5 := Lib.hid hs5; (try (have HS5b := Lib.hid (show Shown w1 g p c C F FM dk n pv v l (T1 n mx mz) (its ++ ri) w5 from hs5))); clear hs5 hc5)))
          go_ret
          refine ⟨?_, Shown.of_up HU1.out (show Shown w1 g p c C F FM dk n pv v l (T1 n (spR C F FM dk (ax, ay) (ox, oy) letter (x, y) bs).2.1.1 (spR C F FM dk (ax, ay) (ox, oy) letter (x, y) bs).2.1.2) (spR C F FM dk (ax, ay) (ox, oy) letter (x, y) bs).2.2 _ from ?_)⟩
          · rw [HEQ.out, HD.out, spR_b (q := (qx, qy)) (a := (ax, ay)) (o := (ox, oy)) (letter := letter) HL.out rfl HM.out HME.out]; rfl
          · rw [HEQ.out, HD.out, spR_b (q := (qx, qy)) (a := (ax, ay)) (o := (ox, oy)) (letter := letter) HL.out rfl HM.out HME.out]; exact (by have h1 := HS5.out; rw [if_neg HME.out] at h1; exact h1)
        · have HME := Lib.hid hme
          subst hme
          by_cases hbl : b = letter
          rotate_left
          · have t3 : (b == letter) = false := by simpa using hbl
            have HBL := Lib.hid hbl
            clear hbl
            go_wp2_with (first
              | (go_at_call 11; ((with_reducible refine (show_from g p c C F FM dk n pv v l qx qy its _ _ 1 [b] rfl HSR.out HFQ.out (ints_one HBG.out HCB.out HWB.out (by omega) (by omega)) (by decide) (by have := HIL.out; omega) hF1 h4 h5 HTR.out).mono ?_); rw [HL.out]; rintro E w4 ⟨rfl, hs4⟩; have hc4 := shown_chg hs4; have z4 := hc4.size; have R9_w4 : Row w4 w.heap.size #[.int .i64 ax, .int .i64 ay] := R9_w1.chg hc4 (fun hk => by have := HLS.out _ hk; omega); have c9_0 : w4.cell? ⟨w.heap.size, 0, none⟩ = some (.int .i64 ax) := R9_w4.cell 0 rfl; have c9_1 : w4.cell? ⟨w.heap.size, 1, none⟩ = some (.int .i64 ay) := R9_w4.cell 1 rfl; have l9 := R9_w4.lt; have HS4 := Lib.hid hs4; clear hs4 hc4))
              | (go_at_call 38; ((with_reducible refine (on_from g p c C F FM dk n pv v l rx ry ax ay _ HS4.out).mono ?_); rw [HM.out]; rintro E w5 ⟨rfl, hs5⟩; have hc5 := shown_chg hs5; have z5 := hc5.size; have R10_w5 : Row w5 (w.heap.size + 1) #[.int .i64 ox, .int .i64 oy] := R10_w1.chg hc5 (fun hk => by have := HLS.out _ hk; omega); have c10_0 : w5.cell? ⟨w.heap.size + 1, 0, none⟩ = some (.int .i64 ox) := R10_w5.cell 0 rfl; have c10_1 : w5.cell? ⟨w.heap.size + 1, 1, none⟩ = some (.int .i64 oy) := R10_w5.cell 1 rfl; have l10 := R10_w5.lt; have HS5 := Lib.hid hs5; (try (have HS5b := Lib.hid (show Shown w1 g p c C F FM dk n pv v l (T1 n mx mz) (its ++ ri) w5 from hs5))); clear hs5 hc5)))
            go_roundw
            case rel => exact ⟨k + 1, mx, mz, its ++ ri, by omega, by go_num, Lib.hid (show Shown w1 g p c C F FM dk n pv v l (T1 n mx mz) (its ++ ri) _ from HS5.out), Lib.hid HF1.out, Lib.hid (by rw [List.length_append]; have h1 := HIL.out; have h2 := HRL.out; omega), Lib.hid (by rw [HEQ.out, HD.out, spR_c (q := (qx, qy)) (a := (ax, ay)) (o := (ox, oy)) (letter := letter) HL.out rfl HM.out rfl HBL.out]; simp only [List.append_assoc])⟩
            case measure => simp [intOf]; omega
          · have t3 : (b == letter) = true := by simpa using hbl
            have HBL := Lib.hid hbl
            clear hbl
            by_cases hke : ke = 0
            rotate_left
            · have t4 : (ke == 0) = false := by simpa using hke
              have HKE := Lib.hid hke
              clear hke
              go_wp2_with (first
                | (go_at_call 11; ((with_reducible refine (show_from g p c C F FM dk n pv v l qx qy its _ _ 1 [b] rfl HSR.out HFQ.out (ints_one HBG.out HCB.out HWB.out (by omega) (by omega)) (by decide) (by have := HIL.out; omega) hF1 h4 h5 HTR.out).mono ?_); rw [HL.out]; rintro E w4 ⟨rfl, hs4⟩; have hc4 := shown_chg hs4; have z4 := hc4.size; have R9_w4 : Row w4 w.heap.size #[.int .i64 ax, .int .i64 ay] := R9_w1.chg hc4 (fun hk => by have := HLS.out _ hk; omega); have c9_0 : w4.cell? ⟨w.heap.size, 0, none⟩ = some (.int .i64 ax) := R9_w4.cell 0 rfl; have c9_1 : w4.cell? ⟨w.heap.size, 1, none⟩ = some (.int .i64 ay) := R9_w4.cell 1 rfl; have l9 := R9_w4.lt; have HS4 := Lib.hid hs4; clear hs4 hc4))
                | (go_at_call 38; ((with_reducible refine (on_from g p c C F FM dk n pv v l rx ry ax ay _ HS4.out).mono ?_); rw [HM.out]; rintro E w5 ⟨rfl, hs5⟩; have hc5 := shown_chg hs5; have z5 := hc5.size; have R10_w5 : Row w5 (w.heap.size + 1) #[.int .i64 ox, .int .i64 oy] := R10_w1.chg hc5 (fun hk => by have := HLS.out _ hk; omega); have c10_0 : w5.cell? ⟨w.heap.size + 1, 0, none⟩ = some (.int .i64 ox) := R10_w5.cell 0 rfl; have c10_1 : w5.cell? ⟨w.heap.size + 1, 1, none⟩ = some (.int .i64 oy) := R10_w5.cell 1 rfl; have l10 := R10_w5.lt; have HS5 := Lib.hid hs5; (try (have HS5b := Lib.hid (show Shown w1 g p c C F FM dk n pv v l (T1 n mx mz) (its ++ ri) w5 from hs5))); clear hs5 hc5))
                | (go_at_call 38; ((with_reducible refine (on_from g p c C F FM dk n pv v l mx mz ox oy _ HS5b.out).mono ?_); rw [HK.out]; rintro E w6 ⟨rfl, hs6⟩; have HS6 := Lib.hid hs6; clear hs6)))
              go_ret
              refine ⟨?_, Shown.of_up HU1.out (show Shown w1 g p c C F FM dk n pv v l (T1 n (spR C F FM dk (ax, ay) (ox, oy) letter (x, y) bs).2.1.1 (spR C F FM dk (ax, ay) (ox, oy) letter (x, y) bs).2.1.2) (spR C F FM dk (ax, ay) (ox, oy) letter (x, y) bs).2.2 _ from ?_)⟩
              · rw [HEQ.out, HD.out, spR_d (q := (qx, qy)) (a := (ax, ay)) (o := (ox, oy)) (letter := letter) HL.out rfl HM.out rfl HBL.out HK.out HKE.out]; rfl
              · rw [HEQ.out, HD.out, spR_d (q := (qx, qy)) (a := (ax, ay)) (o := (ox, oy)) (letter := letter) HL.out rfl HM.out rfl HBL.out HK.out HKE.out]; exact (by have h1 := HS6.out; rw [if_neg HKE.out] at h1; exact h1)
            · have HKE := Lib.hid hke
              subst hke
              go_wp2_with (first
                | (go_at_call 11; ((with_reducible refine (show_from g p c C F FM dk n pv v l qx qy its _ _ 1 [b] rfl HSR.out HFQ.out (ints_one HBG.out HCB.out HWB.out (by omega) (by omega)) (by decide) (by have := HIL.out; omega) hF1 h4 h5 HTR.out).mono ?_); rw [HL.out]; rintro E w4 ⟨rfl, hs4⟩; have hc4 := shown_chg hs4; have z4 := hc4.size; have R9_w4 : Row w4 w.heap.size #[.int .i64 ax, .int .i64 ay] := R9_w1.chg hc4 (fun hk => by have := HLS.out _ hk; omega); have c9_0 : w4.cell? ⟨w.heap.size, 0, none⟩ = some (.int .i64 ax) := R9_w4.cell 0 rfl; have c9_1 : w4.cell? ⟨w.heap.size, 1, none⟩ = some (.int .i64 ay) := R9_w4.cell 1 rfl; have l9 := R9_w4.lt; have HS4 := Lib.hid hs4; clear hs4 hc4))
                | (go_at_call 38; ((with_reducible refine (on_from g p c C F FM dk n pv v l rx ry ax ay _ HS4.out).mono ?_); rw [HM.out]; rintro E w5 ⟨rfl, hs5⟩; have hc5 := shown_chg hs5; have z5 := hc5.size; have R10_w5 : Row w5 (w.heap.size + 1) #[.int .i64 ox, .int .i64 oy] := R10_w1.chg hc5 (fun hk => by have := HLS.out _ hk; omega); have c10_0 : w5.cell? ⟨w.heap.size + 1, 0, none⟩ = some (.int .i64 ox) := R10_w5.cell 0 rfl; have c10_1 : w5.cell? ⟨w.heap.size + 1, 1, none⟩ = some (.int .i64 oy) := R10_w5.cell 1 rfl; have l10 := R10_w5.lt; have HS5 := Lib.hid hs5; (try (have HS5b := Lib.hid (show Shown w1 g p c C F FM dk n pv v l (T1 n mx mz) (its ++ ri) w5 from hs5))); clear hs5 hc5))
                | (go_at_call 38; ((with_reducible refine (on_from g p c C F FM dk n pv v l mx mz ox oy _ HS5b.out).mono ?_); rw [HK.out]; rintro E w6 ⟨rfl, hs6⟩; have HS6 := Lib.hid hs6; clear hs6)))
              go_roundw
              case rel => exact ⟨k + 1, kx, kz, its ++ ri, by omega, by go_num, Lib.hid (show Shown w1 g p c C F FM dk n pv v l (T1 n kx kz) (its ++ ri) _ from HS6.out), Lib.hid HF2.out, Lib.hid (by rw [List.length_append]; have h1 := HIL.out; have h2 := HRL.out; omega), Lib.hid (by rw [HEQ.out, HD.out, spR_e (q := (qx, qy)) (a := (ax, ay)) (o := (ox, oy)) (letter := letter) HL.out rfl HM.out rfl HBL.out HK.out rfl]; simp only [List.append_assoc])⟩
              case measure => simp [intOf]; omega
    · obtain rfl : k = N := by omega
      have HD0 := Lib.hid (show bs.drop k = [] from List.drop_eq_nil_of_le (by have := HN.out; omega))
      go_wp2
      go_ret
      refine ⟨?_, Shown.of_up HU1.out (show Shown w1 g p c C F FM dk n pv v l (T1 n (spR C F FM dk (ax, ay) (ox, oy) letter (x, y) bs).2.1.1 (spR C F FM dk (ax, ay) (ox, oy) letter (x, y) bs).2.1.2) (spR C F FM dk (ax, ay) (ox, oy) letter (x, y) bs).2.2 _ from ?_)⟩
      · rw [HEQ.out, HD0.out]; rfl
      · rw [HEQ.out, HD0.out]
        show Shown w1 g p c C F FM dk n pv v l (T1 n qx qy) (its ++ []) _
        rw [List.append_nil]
        exact HSR.out

end Go.Proofs.YtjdbefpfjhdmoaaDoor.Sh
end

section
namespace Go.Proofs.YtjdbefpfjhdmoaaDoor.Sh
open Go.Proofs.YtjdbefpfjhdmoaaDoor.ZGH
open Go.ChangeShapes Go.WideShapes Go.ChangeAt Go.RowKit
open Go.Proofs.YtjdbefpfjhdmoaaDoor.Gs
open Go.Proofs.YtjdbefpfjhdmoaaDoor.MatM (M6)
open Go.Proofs.YtjdbefpfjhdmoaaDoor.PathM
set_option linter.unusedVariables false
set_option linter.unusedSimpArgs false

set_option maxRecDepth 8000 in
set_option maxHeartbeats 2000000 in
theorem spaced_stop (g p c : Nat) (C : M6) (F : Int) (FM : M6) (dk : Bool) (n : Int) (pv v : Value) (T : St) (l : List Cl) (x y e ax ay ox oy letter : Int) (vb : Value) (w : World) (h : Prg w g p c C F FM dk n pv v T l) (hR : placeR F T = ((x, y), e)) (he : e ≠ 0) :
    Calls Tryd.prog 12 #[.pointer (some ⟨c, 0, none⟩), .pointer (some ⟨g, 0, none⟩), vb, .agg #[.int .i64 ax, .int .i64 ay], .agg #[.int .i64 ox, .int .i64 oy], .int .i64 letter] w fun E w' => E = .returned (.int .i64 e) ∧ Up w w' := by
  have HH := Lib.hid h
  have HR := Lib.hid hR
  have t0 : (e == 0) = false := by simpa using he
  clear h hR he
  go_enter Tryd.func12, Tryd.ntmps12
  go_wp2_with (first
    | (go_at_call 33; ((with_reducible refine (ready_calls g C 65536 0 F FM dk p 2 n pv _ _ (HH.out.up (show Up w _ by exact ua)).rg (HH.out.up (show Up w _ by exact ua)).pa).mono ?_); rw [HR.out]; rintro E w1 ⟨⟨gc, hg1, rfl⟩, hu1⟩; have z1 := hu1.size; (try simp at z1); have R9_w1 : Row w1 w.heap.size #[.int .i64 ax, .int .i64 ay] := Row.up (show Row _ w.heap.size #[.int .i64 ax, .int .i64 ay] by exact ra) hu1; have R10_w1 : Row w1 (w.heap.size + 1) #[.int .i64 ox, .int .i64 oy] := Row.up (show Row _ (w.heap.size + 1) #[.int .i64 ox, .int .i64 oy] by exact ra) hu1; have HU1 := Lib.hid (show Up w w1 by exact ua)))
    | ((refine at_op (.store 74 (.tmp 13) _) rfl ?_); (refine wpList_store_Row rfl 74 (.tmp 13) _ rfl w1.heap.size #[.int .i64 C.a, .int .i64 C.b, .int .i64 C.c, .int .i64 C.d, .int .i64 C.x, .int .i64 C.y, .int .i64 1, .int .i64 0, .int .i64 0, .int .i64 0, .int .i64 0, .int .i64 65536, .int .i64 0, .int .i64 0, .int .i64 655360, .slice none 0 0, .int .i64 0, .int .i64 F, .int .i64 FM.a, .int .i64 FM.b, .int .i64 FM.c, .int .i64 FM.d, .int .i64 FM.x, .int .i64 FM.y, .slice (some ⟨gc, 0, none⟩) 0 0, .bool dk] rfl rfl #[.int .i64 0, .int .i64 0, .int .i64 0, .int .i64 0, .int .i64 0, .int .i64 0, .int .i64 0, .int .i64 0, .int .i64 0, .int .i64 0, .int .i64 0, .int .i64 0, .int .i64 0, .int .i64 0, .int .i64 0, .slice none 0 0, .int .i64 0, .int .i64 0, .int .i64 0, .int .i64 0, .int .i64 0, .int .i64 0, .int .i64 0, .int .i64 0, .slice none 0 0, .bool false] (by exact ra) infoSt rfl rfl (by simp [Value.oneCell']) ?_); intro w2 hr2 hc2; have z2 := hc2.size; (try simp at z2); have RP2 : Row w2 (w1.heap.size + 1) #[.int .i64 0, .int .i64 0] := (by exact ra); have lp2 := RP2.lt; have p2_0 : w2.cell? ⟨w1.heap.size + 1, 0, none⟩ = some (.int .i64 0) := RP2.cell 0 rfl; have p2_1 : w2.cell? ⟨w1.heap.size + 1, 1, none⟩ = some (.int .i64 0) := RP2.cell 1 rfl; have pf2_0 := RP2.free 0; have pf2_1 := RP2.free 1))
  go_ret
  exact ⟨rfl, (show Chg [] w _ by (repeat' (first | (with_reducible first | exact Chg.refl _ _ | assumption | refine Chg.alloc ?_ _ | refine Chg.drew ?_ | refine Chg.drewN ?_ _ | refine Chg.setCell ?_ ?_ _ | refine Chg.upc ?_ (by assumption) | refine Chg.call ?_ (by assumption) ?_) | (refine Or.inl ?_; (simp; done)) | (simp; done) | (simp; omega) | omega))).up⟩

end Go.Proofs.YtjdbefpfjhdmoaaDoor.Sh
end

section
namespace Go.Proofs.YtjdbefpfjhdmoaaDoor.Sh
open Go.ChangeShapes Go.WideShapes Go.ChangeAt Go.RowKit
open Go.Proofs.YtjdbefpfjhdmoaaDoor.Gs
open Go.Proofs.YtjdbefpfjhdmoaaDoor.FixM (fits)
open Go.Proofs.YtjdbefpfjhdmoaaDoor.MatM (M6)
open Go.Proofs.YtjdbefpfjhdmoaaDoor.PathM
set_option linter.unusedVariables false
set_option linter.unusedSimpArgs false

/-- what Spaced does -/
def spO (C : M6) (F : Int) (FM : M6) (dk : Bool) (a o : Int × Int) (letter : Int) (q : Option (Int × Int)) (bs : List Int) : Int × Option (Int × Int) × List It :=
  match q with
  | none => (if F < 0 then 7 else 10, none, [])
  | some q => if F < 0 then (7, some q, []) else ((spR C F FM dk a o letter q bs).1, some (spR C F FM dk a o letter q bs).2.1, (spR C F FM dk a o letter q bs).2.2)
end Go.Proofs.YtjdbefpfjhdmoaaDoor.Sh
end

section
namespace Go.Proofs.YtjdbefpfjhdmoaaDoor.Sh
open Go.ChangeShapes Go.WideShapes Go.ChangeAt Go.RowKit
open Go.Proofs.YtjdbefpfjhdmoaaDoor.Gs
open Go.Proofs.YtjdbefpfjhdmoaaDoor.FixM (fits)
open Go.Proofs.YtjdbefpfjhdmoaaDoor.MatM (M6)
open Go.Proofs.YtjdbefpfjhdmoaaDoor.PathM
set_option linter.unusedVariables false
set_option linter.unusedSimpArgs false

theorem mul_zero (a : Int) (h : fits a = true) : FixM.mul a 0 = (0, 0) := by
  unfold FixM.mul
  rw [h, show fits 0 = true by decide, Int.mul_zero]
  decide
theorem delta_zero (a b c d : Int) (ha : fits a = true) (hb : fits b = true) (hc : fits c = true) (hd : fits d = true) : MatM.delta a b c d 0 0 = ((0, 0), 0) := by
  unfold MatM.delta MatM.two
  simp only [mul_zero a ha, mul_zero b hb, mul_zero c hc, mul_zero d hd]
  decide
/-- the four entries that lead a distance fit -/
def fit4 (m : M6) : Prop := fits m.a = true ∧ fits m.b = true ∧ fits m.c = true ∧ fits m.d = true
theorem add_zero (x : Int) (h : fits x = true) : FixM.add x 0 = (x, 0) := by
  unfold FixM.add FixM.within
  rw [h, show fits 0 = true by decide, Int.add_zero, h]
  rfl
theorem moved_zero (C : M6) (x y : Int) (hC : fit4 C) (h : fitsP (x, y) = true) : movedR C x y 0 0 = ((x, y), 0) := by
  obtain ⟨ha, hb, hc, hd⟩ := hC
  have hxy : fits x = true ∧ fits y = true := by simpa [fitsP] using h
  unfold movedR
  rw [delta_zero _ _ _ _ ha hb hc hd]
  simp only [add_zero x hxy.1, add_zero y hxy.2, if_true]
theorem far_nil (F : Int) (FM : M6) (h : fit4 FM) : farR F FM [] = ((0, 0), 0) := by
  obtain ⟨ha, hb, hc, hd⟩ := h
  unfold farR
  have e : thou (FontM.sumW F [] * 65536) = 0 := by
    have : FontM.sumW F [] = 0 := rfl
    rw [this]
    decide
  rw [e, delta_zero _ _ _ _ ha hb hc hd]
  rfl
theorem let_nil (C : M6) (F : Int) (FM : M6) (dk : Bool) (x y : Int) (hC : fit4 C) (hM : fit4 FM) (h : fitsP (x, y) = true) (hF : ¬ F < 0) : letR C F FM dk x y [] = (0, (x, y), []) := by
  unfold letR
  rw [if_neg hF, far_nil F FM hM]
  simp only [moved_zero C x y hC h]
  simp
/-- Show of one byte after the other -/
def agR (C : M6) (F : Int) (FM : M6) (dk : Bool) : Option (Int × Int) → List Int → Int × Option (Int × Int) × List It
  | q, [] => (0, q, [])
  | q, b :: bs => if (stepR C F FM dk q [b]).1 ≠ 0 then stepR C F FM dk q [b]
    else ((agR C F FM dk (stepR C F FM dk q [b]).2.1 bs).1, (agR C F FM dk (stepR C F FM dk q [b]).2.1 bs).2.1, (stepR C F FM dk q [b]).2.2 ++ (agR C F FM dk (stepR C F FM dk q [b]).2.1 bs).2.2)
theorem again_some (C : M6) (F : Int) (FM : M6) (dk : Bool) (hC : fit4 C) : ∀ (bs : List Int) (q : Int × Int), fitsP q = true →
    agR C F FM dk (some q) bs = ((spR C F FM dk (0, 0) (0, 0) 5 q bs).1, some (spR C F FM dk (0, 0) (0, 0) 5 q bs).2.1, (spR C F FM dk (0, 0) (0, 0) 5 q bs).2.2)
  | [], q, _ => by simp [agR, spR]
  | b :: bs, q, hq => by
    have hf : fitsP (letR C F FM dk q.1 q.2 [b]).2.1 = true := let_fits (x := q.1) (y := q.2) hq
    by_cases he : (letR C F FM dk q.1 q.2 [b]).1 = 0
    · have h0 : movedR C (letR C F FM dk q.1 q.2 [b]).2.1.1 (letR C F FM dk q.1 q.2 [b]).2.1.2 0 0 = ((letR C F FM dk q.1 q.2 [b]).2.1, 0) := moved_zero C _ _ hC hf
      have ih := again_some C F FM dk hC bs (letR C F FM dk q.1 q.2 [b]).2.1 hf
      rw [agR, if_neg (by simpa [stepR] using he)]
      show ((agR C F FM dk (some (letR C F FM dk q.1 q.2 [b]).2.1) bs).1, (agR C F FM dk (some (letR C F FM dk q.1 q.2 [b]).2.1) bs).2.1, (letR C F FM dk q.1 q.2 [b]).2.2 ++ (agR C F FM dk (some (letR C F FM dk q.1 q.2 [b]).2.1) bs).2.2) = _
      rw [ih, spR, if_neg (by simpa using he), h0]
      simp only [h0]
      by_cases hb : b = 5
      · simp [hb]
      · simp [hb]
    · have h1 := let_err (C := C) (F := F) (FM := FM) (dk := dk) (x := q.1) (y := q.2) (zs := [b]) he
      rw [agR, if_pos (by simpa [stepR] using he), spR, if_pos he]
      simp [stepR, h1]
theorem again_eq (C : M6) (F : Int) (FM : M6) (dk : Bool) (hC : fit4 C) (bs : List Int) (hbs : bs ≠ []) (q : Option (Int × Int)) (hq : fitsO q) : agR C F FM dk q bs = spO C F FM dk (0, 0) (0, 0) 5 q bs := by
  cases q with
  | none =>
    cases bs with
    | nil => exact absurd rfl hbs
    | cons b bs =>
      rw [agR, if_pos (by simp only [stepR]; split <;> decide)]
      rfl
  | some q =>
    by_cases hF : F < 0
    · cases bs with
      | nil => exact absurd rfl hbs
      | cons b bs =>
        have hl : letR C F FM dk q.1 q.2 [b] = (7, (q.1, q.2), []) := by unfold letR; rw [if_pos hF]
        rw [agR, if_pos (by simp [stepR, hl])]
        unfold spO
        simp [stepR, hl, hF]
    · rw [again_some C F FM dk hC bs q hq]
      unfold spO
      simp only
      rw [if_neg hF]
theorem again_nil (C : M6) (F : Int) (FM : M6) (dk : Bool) (hC : fit4 C) (hM : fit4 FM) (q : Option (Int × Int)) (hq : fitsO q) : (spO C F FM dk (0, 0) (0, 0) 5 q []).1 = (stepR C F FM dk q []).1 ∧ (spO C F FM dk (0, 0) (0, 0) 5 q []).2.2 = (stepR C F FM dk q []).2.2 := by
  cases q with
  | none => simp [spO, stepR]
  | some q =>
    by_cases hF : F < 0
    · have hl : letR C F FM dk q.1 q.2 [] = (7, (q.1, q.2), []) := by unfold letR; rw [if_pos hF]
      unfold spO
      simp [stepR, hl, hF]
    · have hl := let_nil C F FM dk q.1 q.2 hC hM hq hF
      unfold spO
      simp [stepR, hl, hF, spR]
theorem spR_its2 (C : M6) (F : Int) (FM : M6) (dk : Bool) : ∀ (bs : List Int) (q : Option (Int × Int)), (agR C F FM dk q bs).2.2.length ≤ bs.length ∧ ∀ i ∈ (agR C F FM dk q bs).2.2, i.bs.length ≤ 1
  | [], q => by simp [agR]
  | b :: bs, q => by
    obtain ⟨h1, h2⟩ := step_its C F FM dk q [b]
    have h3 : ∀ i ∈ (stepR C F FM dk q [b]).2.2, i.bs.length ≤ 1 := fun i hi => by rw [h2 i hi]; simp
    obtain ⟨h4, h5⟩ := spR_its2 C F FM dk bs (stepR C F FM dk q [b]).2.1
    rw [agR]
    split
    · exact ⟨by simp only [List.length_cons]; omega, h3⟩
    · refine ⟨by simp only [List.length_append, List.length_cons]; omega, fun i hi => ?_⟩
      rcases List.mem_append.1 hi with h | h
      · exact h3 i h
      · exact h5 i h
theorem agR_step {C : M6} {F : Int} {FM : M6} {dk : Bool} {q qk : Option (Int × Int)} {bs rest : List Int} {b : Int} {its : List It} (h : agR C F FM dk q bs = ((agR C F FM dk qk (b :: rest)).1, (agR C F FM dk qk (b :: rest)).2.1, its ++ (agR C F FM dk qk (b :: rest)).2.2)) :
    ((stepR C F FM dk qk [b]).1 = 0 → agR C F FM dk q bs = ((agR C F FM dk (stepR C F FM dk qk [b]).2.1 rest).1, (agR C F FM dk (stepR C F FM dk qk [b]).2.1 rest).2.1, (its ++ (stepR C F FM dk qk [b]).2.2) ++ (agR C F FM dk (stepR C F FM dk qk [b]).2.1 rest).2.2)) ∧
    ((stepR C F FM dk qk [b]).1 ≠ 0 → agR C F FM dk q bs = ((stepR C F FM dk qk [b]).1, (stepR C F FM dk qk [b]).2.1, its ++ (stepR C F FM dk qk [b]).2.2)) := by
  refine ⟨fun he => ?_, fun he => ?_⟩
  · rw [h, agR, if_neg (by simpa using he)]
    simp [List.append_assoc]
  · rw [h, agR, if_pos he]

/-- Show and Spaced of a program alone -/
theorem show_prg (g p c : Nat) (C : M6) (F : Int) (FM : M6) (dk : Bool) (n : Int) (pv v : Value) (q : Option (Int × Int)) (l : List Cl) (w : World) (h : Prg w g p c C F FM dk n pv v (TO n q) l) (hq : fitsO q)
    (ba : Option Addr) (bc N : Nat) (bs : List Int) (hN : bs.length = N) (hv : Ints .u8 w (.slice ba N bc) bs) (hl : N ≤ 65535) (hln : l.length < 4096) (hF1 : F < 14) (h4 : (Lit.int .i64 C.x).wf = true) (h5 : (Lit.int .i64 C.y).wf = true) (hT : Font.Tab w) :
    Calls Tryd.prog 11 #[.pointer (some ⟨c, 0, none⟩), .pointer (some ⟨g, 0, none⟩), .slice ba N bc] w fun E w' => E = .returned (.int .i64 (stepR C F FM dk q bs).1) ∧ Shown w g p c C F FM dk n pv v l (TO n (stepR C F FM dk q bs).2.1) (stepR C F FM dk q bs).2.2 w' := by
  subst hN
  cases q with
  | none =>
    refine (show_noplace g p c C F FM dk n pv v l ba bc bs w h hv hl).mono ?_
    rintro E w' ⟨rfl, hu⟩
    exact ⟨rfl, Shown.same h hu⟩
  | some q => exact show_calls g p c C F FM dk n pv v l q.1 q.2 ba bc bs w h hq hv hl hln hF1 h4 h5 hT
theorem spaced_prg (g p c : Nat) (C : M6) (F : Int) (FM : M6) (dk : Bool) (n : Int) (pv v : Value) (q : Option (Int × Int)) (l : List Cl) (ax ay ox oy letter : Int) (w : World) (h : Prg w g p c C F FM dk n pv v (TO n q) l) (hq : fitsO q)
    (ba : Option Addr) (bc N : Nat) (bs : List Int) (hN : bs.length = N) (hv : Ints .u8 w (.slice ba N bc) bs) (hl : N ≤ 300) (hln : l.length ≤ 100) (hF1 : F < 14) (h4 : (Lit.int .i64 C.x).wf = true) (h5 : (Lit.int .i64 C.y).wf = true) (hTT : ∀ w', Chg (p :: c :: (own pv ++ own v)) w w' → Font.Tab w')
    (hbo : 0 < N → ∀ b ∈ own (.slice ba N bc), b ∉ p :: c :: (own pv ++ own v)) :
    Calls Tryd.prog 12 #[.pointer (some ⟨c, 0, none⟩), .pointer (some ⟨g, 0, none⟩), .slice ba N bc, .agg #[.int .i64 ax, .int .i64 ay], .agg #[.int .i64 ox, .int .i64 oy], .int .i64 letter] w fun E w' =>
      E = .returned (.int .i64 (spO C F FM dk (ax, ay) (ox, oy) letter q bs).1) ∧ Shown w g p c C F FM dk n pv v l (TO n (spO C F FM dk (ax, ay) (ox, oy) letter q bs).2.1) (spO C F FM dk (ax, ay) (ox, oy) letter q bs).2.2 w' := by
  cases q with
  | none =>
    have hR : placeR F (TO n none) = ((0, 0), if F < 0 then 7 else 10) := by
      unfold placeR
      by_cases hF : F < 0
      · rw [if_pos hF, if_pos hF]
      · rw [if_neg hF, if_neg hF]; rfl
    refine (spaced_stop g p c C F FM dk n pv v _ l 0 0 _ ax ay ox oy letter _ w h hR (by split <;> decide)).mono ?_
    rintro E w' ⟨rfl, hu⟩
    exact ⟨rfl, Shown.same h hu⟩
  | some q =>
    by_cases hF : F < 0
    · refine (spaced_stop g p c C F FM dk n pv v _ l 0 0 7 ax ay ox oy letter _ w h (by unfold placeR; rw [if_pos hF]) (by decide)).mono ?_
      rintro E w' ⟨rfl, hu⟩
      have e : spO C F FM dk (ax, ay) (ox, oy) letter (some q) bs = (7, some q, []) := by unfold spO; simp only; rw [if_pos hF]
      rw [e]
      exact ⟨rfl, Shown.same h hu⟩
    · have e : spO C F FM dk (ax, ay) (ox, oy) letter (some q) bs = ((spR C F FM dk (ax, ay) (ox, oy) letter q bs).1, some (spR C F FM dk (ax, ay) (ox, oy) letter q bs).2.1, (spR C F FM dk (ax, ay) (ox, oy) letter q bs).2.2) := by unfold spO; simp only; rw [if_neg hF]
      rw [e]
      exact spaced_calls g p c C F FM dk n pv v l q.1 q.2 ax ay ox oy letter ba bc N bs hN w h hq hv hl hln hF hF1 h4 h5 hTT hbo

/-- two programs side by side -/
structure Duo (w0 w : World) (g p c h r d : Nat) (C : M6) (F : Int) (FM : M6) (dk : Bool) (n : Int) (pv v rv u : Value) (T U : St) (l1 l2 : List Cl) : Prop where
  a : Prg w g p c C F FM dk n pv v T l1
  b : Prg w h r d C F FM dk n rv u U l2
  s1 : ∀ k ∈ g :: p :: c :: (own pv ++ own v), k ∉ h :: r :: d :: (own rv ++ own u) ∧ k ∉ bys l2
  s2 : ∀ k ∈ h :: r :: d :: (own rv ++ own u), k ∉ bys l1
  na : ∀ k ∈ g :: p :: c :: (own pv ++ own v), w0.heap.size ≤ k
  nb : ∀ k ∈ h :: r :: d :: (own rv ++ own u), w0.heap.size ≤ k
  up : Up w0 w
section
variable {w0 w w1 : World} {g p c h r d : Nat} {C : M6} {F : Int} {FM : M6} {dk : Bool} {n : Int} {pv v rv u : Value} {T U T' : St} {l1 l2 : List Cl} {its : List It}
theorem Prg.mut (x : Prg w g p c C F FM dk n pv v T l1) : ∀ b ∈ g :: p :: c :: (own pv ++ own v), b < w.heap.size := fun b hb => by
  simp only [List.mem_cons, List.mem_append] at hb
  rcases hb with rfl | rfl | rfl | hb | hb
  · exact x.rg.lt
  · exact x.pa.row.lt
  · exact x.cv.row.lt
  · exact pv_lt x.pa b hb
  · exact own_lt x.cv.its b hb
theorem Duo.symm (x : Duo w0 w g p c h r d C F FM dk n pv v rv u T U l1 l2) : Duo w0 w h r d g p c C F FM dk n rv u pv v U T l2 l1 :=
  ⟨x.b, x.a, fun k hk => ⟨fun h2 => (x.s1 k h2).1 hk, x.s2 k hk⟩, fun k hk => (x.s1 k hk).2, x.nb, x.na, x.up⟩
theorem Duo.chg (x : Duo w0 w g p c h r d C F FM dk n pv v rv u T U l1 l2) (hu : Up w w1) : Duo w0 w1 g p c h r d C F FM dk n pv v rv u T U l1 l2 :=
  ⟨x.a.up hu, x.b.up hu, x.s1, x.s2, x.na, x.nb, Up.call x.up hu⟩
theorem Duo.shown (x : Duo w0 w g p c h r d C F FM dk n pv v rv u T U l1 l2) (hs : Shown w g p c C F FM dk n pv v l1 T' its w1) :
    ∃ pv' v' l1', Duo w0 w1 g p c h r d C F FM dk n pv' v' rv u T' U l1' l2 ∧ l1'.map (·.it) = l1.map (·.it) ++ its := by
  obtain ⟨pv', v', l', h1, h2, h3, h4, h5⟩ := hs
  have hml := x.b.mut
  have hbl := bys_lt x.b.cv.bytes x.b.lb
  have hmem : ∀ b ∈ p :: c :: (own pv ++ own v), b ∈ g :: p :: c :: (own pv ++ own v) := fun b hb => List.mem_cons_of_mem _ hb
  have hold : ∀ b ∈ g :: p :: c :: (own pv' ++ own v'), b ∈ g :: p :: c :: (own pv ++ own v) ∨ w.heap.size ≤ b := fun b hb => by
    simp only [List.mem_cons] at hb
    rcases hb with rfl | rfl | rfl | hb
    · simp
    · simp
    · simp
    · exact (h4 b hb).imp (fun h => by simp only [List.mem_cons]; exact Or.inr (Or.inr (Or.inr h))) id
  have hno : ∀ b ∈ h :: r :: d :: (own rv ++ own u), b ∉ p :: c :: (own pv ++ own v) := fun b hb h6 => (x.s1 b (hmem b h6)).1 hb
  refine ⟨pv', v', l', ⟨h1, x.b.chg h3 (hno h (by simp)) (hno r (by simp)) (hno d (by simp)) (fun b hb => hno b (by simp [hb])) (fun b hb => hno b (by simp [hb])) (fun b hb h6 => (x.s1 b (hmem b h6)).2 hb), ?_, ?_, ?_, x.nb, ?_⟩, h2⟩
  · intro b hb
    rcases hold b hb with h6 | h6
    · exact x.s1 b h6
    · exact ⟨fun h7 => by have := hml b h7; omega, fun h7 => by have := hbl b h7; omega⟩
  · intro b hb h6
    rcases h5 b h6 with h7 | h7
    · exact x.s2 b hb h7
    · have := hml b hb; omega
  · intro b hb
    have hsz := x.up.size
    rcases hold b hb with h6 | h6
    · exact x.na b h6
    · omega
  · exact ((Chg.of_up (S := []) x.up).call h3 (fun k hk => Or.inr (x.na k (hmem k hk)))).up
theorem Duo.tab (x : Duo w0 w g p c h r d C F FM dk n pv v rv u T U l1 l2) (hT : Font.Tab w0) : ∀ w', Chg (p :: c :: (own pv ++ own v)) w w' → Font.Tab w' := fun w' hc =>
  hT.up (((Chg.of_up (S := []) x.up).call hc (fun k hk => Or.inr (x.na k (List.mem_cons_of_mem _ hk)))).up)
/-- both at first -/
theorem Duo.first {w2 : World} {pv rv vl vl2 : Value} {T : St} (hg : Row w1 g (gsC C 65536 (.slice none 0 0) 0 F FM dk p 2 n)) (hp : Path.PathIs w1 p pv T) (hc : Row w1 c (cvC (.slice none 0 0))) (hL : Lies w0 g p c pv vl) (hu0 : Up w0 w1)
    (hu1 : Up w1 w2) (hg2 : Row w2 h (gsC C 65536 (.slice none 0 0) 0 F FM dk r 2 n)) (hp2 : Path.PathIs w2 r rv T) (hc2 : Row w2 d (cvC (.slice none 0 0))) (hL2 : Lies w1 h r d rv vl2) :
    Duo w0 w2 g p c h r d C F FM dk n pv (.slice none 0 0) rv (.slice none 0 0) T T [] [] := by
  have e0 : own (.slice none 0 0) = [] := rfl
  have hits : ∀ w, Its w (.slice none 0 0) [] := fun w => World.ownsRow_nil _ _ _ _
  have mk : ∀ {w0 w : World} {g p c : Nat} {pv vl : Value}, Row w g (gsC C 65536 (.slice none 0 0) 0 F FM dk p 2 n) → Path.PathIs w p pv T → Row w c (cvC (.slice none 0 0)) → Lies w0 g p c pv vl → Prg w g p c C F FM dk n pv (.slice none 0 0) T [] := fun hg hp hc hL => by
    have gc := hL.gc
    have pc := hL.pc
    refine ⟨hg, hp, ⟨hc, hits _, (fun k hk => by cases hk), (fun b hb => by cases hb), (by simp [e0])⟩, (fun k hk => by cases hk), hL.pg.symm, by omega, by omega, ?_, by simp [e0], (fun b hb => by cases hb)⟩
    intro b hb
    have := hL.po b (own_of hb)
    exact ⟨by omega, by omega, by simp [e0]⟩
  have new : ∀ {w0 w : World} {g p c : Nat} {pv vl : Value}, Lies w0 g p c pv vl → ∀ k ∈ g :: p :: c :: (own pv ++ own (.slice none 0 0)), w0.heap.size ≤ k := fun hL k hk => by
    have g0 := hL.g0
    have p0 := hL.p0
    have gc := hL.gc
    simp only [List.mem_cons, e0, List.append_nil] at hk
    rcases hk with rfl | rfl | rfl | hk
    · omega
    · omega
    · omega
    · have := hL.po k (own_of hk); omega
  have hP := mk hg hp hc hL
  have hP2 := mk hg2 hp2 hc2 hL2
  refine ⟨hP.up hu1, hP2, fun k hk => ⟨fun h2 => ?_, fun h2 => (by cases h2)⟩, (fun k hk h2 => by cases h2), new (w := w1) hL, fun k hk => Nat.le_trans hu0.size (new (w := w2) hL2 k hk), Up.call hu0 hu1⟩
  have h3 := hP.mut k hk
  have h4 := new (w := w2) hL2 k h2
  omega
end
theorem chk_fit4 {m : M6} (h : chk (lM m) = 0) : fit4 m := by
  unfold chk lM at h
  split at h
  · cases h
  · rename_i h1
    simp only [List.any_cons, List.any_nil, Bool.or_false, Bool.or_eq_true, Bool.not_eq_true', not_or, Bool.not_eq_false] at h1
    exact ⟨h1.1, h1.2.1, h1.2.2.1, h1.2.2.2.1⟩
theorem id_fit4 : fit4 idM := ⟨by decide, by decide, by decide, by decide⟩
theorem ctm_fit4 {ct C : M6} (h : (if chk (lM ct) = 0 then ct else idM) = C) : fit4 C := by
  subst h
  split
  · rename_i h1; exact chk_fit4 h1
  · exact id_fit4
theorem font_fit4 {ft : Int} {fx FM : M6} (h : (if sfE ft fx = 0 then fx else idM) = FM) : fit4 FM := by
  subst h
  split
  · rename_i h1
    unfold sfE at h1
    split at h1
    · rename_i h2; exact chk_fit4 h2
    · cases h1
  · exact id_fit4
end Go.Proofs.YtjdbefpfjhdmoaaDoor.Sh
end

section
namespace Go.Proofs.YtjdbefpfjhdmoaaDoor.showAgain
open Go.Proofs.YtjdbefpfjhdmoaaDoor.ZGH
open Go.ChangeShapes Go.WideShapes Go.ChangeAt Go.RowKit
open Go.Proofs.YtjdbefpfjhdmoaaDoor.Gs Go.Proofs.YtjdbefpfjhdmoaaDoor.Sh Go.Proofs.YtjdbefpfjhdmoaaDoor.Font
open Go.Proofs.YtjdbefpfjhdmoaaDoor.FixM (fits)
open Go.Proofs.YtjdbefpfjhdmoaaDoor.MatM (M6)
set_option linter.unusedVariables false
set_option linter.unusedSimpArgs false

theorem at_op {P : Program} {ops : Array Oper} {rest : List Oper} {o : Oper} {a : Act} {w : World} {Q : Exit → Act → World → Prop} (op : Op) (ho : o.op = op) (h : wpList P ops Q (o :: rest) a w) : wpList P ops Q (o :: rest) a w := h
theorem infoSet : (Tryd.prog.info? 26).map (·.size) = some 18 := by kernel_rfl
theorem lies_up {w0 w1 : World} {g p c : Nat} {pv v : Value} (h : Lies w1 g p c pv v) (hu : Up w0 w1) : Lies w0 g p c pv v :=
  ⟨Nat.le_trans hu.size h.g0, Nat.le_trans hu.size h.p0, h.pg, h.gc, h.pc, h.po, h.so, h.pd⟩
theorem chk_fits {m : M6} (h : chk (lM m) = 0) : fits m.x = true ∧ fits m.y = true := by
  unfold chk lM at h
  split at h
  · cases h
  · rename_i h1
    simp only [List.any_cons, List.any_nil, Bool.or_false, Bool.or_eq_true, Bool.not_eq_true', not_or, Bool.not_eq_false] at h1
    exact ⟨h1.2.2.2.2.1, h1.2.2.2.2.2⟩
theorem ctm_wf {ct C : M6} (h : (if chk (lM ct) = 0 then ct else idM) = C) : (Lit.int .i64 C.x).wf = true ∧ (Lit.int .i64 C.y).wf = true := by
  subst h
  split
  · rename_i h1
    exact ⟨Mat.fits_wf (chk_fits h1).1, Mat.fits_wf (chk_fits h1).2⟩
  · exact ⟨by decide, by decide⟩
theorem font_lt {ft F : Int} {fx : M6} (h : (if sfE ft fx = 0 then ft else -1) = F) : F < 14 := by
  subst h
  split
  · rename_i h1
    unfold sfE at h1
    split at h1
    · split at h1
      · omega
      · cases h1
    · cases h1
  · decide
theorem ints_len {k : IntKind} {w : World} {a : Option Addr} {len c : Nat} {zs : List Int} (h : Ints k w (.slice a len c) zs) : zs.length = len := by
  obtain ⟨ao, c', e, _⟩ := h
  injection e with _ e2 _
  exact e2.symm
theorem row_off {k : IntKind} {w : World} {a : Option Addr} {len cap : Nat} {z : List Int} (h : IsRow k w a len cap z) {S : List Nat} (hS : ∀ b ∈ S, w.heap.size ≤ b) : 0 < len → ∀ b ∈ own (.slice a len cap), b ∉ S := fun h0 b hb => by
  have hlc : len ≤ cap := by
    rcases h with ⟨_, h1, _, _⟩ | ⟨x, _, h1, _⟩
    · omega
    · exact h1
  obtain ⟨b', o', rfl, _, _, _, _, _, hlt⟩ := h.at (by omega)
  have := own_of hb
  simp only [Value.ownBlock, Option.some.injEq] at this
  intro h2
  have := hS b h2
  omega
theorem its_len0 {l : List Cl} {b : List It} (h : l.map (·.it) = b) : l.length = b.length := by
  have := congrArg List.length h
  simpa using this
theorem its_bs0 {l : List Cl} {b : List It} {q : Nat} (h : l.map (·.it) = b) (hb : ∀ i ∈ b, i.bs.length ≤ q) : ∀ k ∈ l, k.it.bs.length ≤ q := fun k hk => hb _ (h ▸ List.mem_map_of_mem hk)
theorem none_ints (w : World) : Ints .u8 w (.slice none 0 0) [] := ⟨none, 0, rfl, Nat.le_refl _, by decide, fun _ => ⟨rfl, rfl⟩, fun h => absurd h (by decide), fun z hz => by cases hz⟩
set_option maxRecDepth 8000 in
theorem walk_far (ct fx : M6) (ft x y : Int) (pl dk : Bool) (sg : Int) (hsg : 0 ≤ sg) (a : Option Addr) (len cap : Nat) (z : List Int) {w : World} (hz : IsRow .u8 w a len cap z) (hT : Font.Tab w) (h3 : ¬ len ≤ 300) :
    Calls Tryd.prog 5 #[.agg #[.int .i64 ct.a, .int .i64 ct.b, .int .i64 ct.c, .int .i64 ct.d, .int .i64 ct.x, .int .i64 ct.y, .int .i64 fx.a, .int .i64 fx.b, .int .i64 fx.c, .int .i64 fx.d, .int .i64 fx.x, .int .i64 fx.y, .int .i64 ft, .int .i64 x, .int .i64 y, .bool pl, .bool dk, .int .u8 sg], .slice a len cap] w fun e w' => e = .returned (.bool true) ∧ Up w w' := by
  have t0 : decide ((300 : Int) < (len : Int)) = true := decide_eq_true (by omega)
  have HT := Lib.hid hT
  clear hz hT
  go_enter Tryd.func5, Tryd.ntmps5
  go_wp2_with (go_at_call 6; ((with_reducible refine (answers_calls _ (HT.out.up (by exact ua))).mono ?_); rintro E w1 ⟨rfl, hu1⟩))
  go_ret
  exact ⟨rfl, by exact ua⟩

set_option maxRecDepth 8000 in
set_option maxHeartbeats 8000000 in
theorem walk_some (ct fx : M6) (ft x y : Int) (pl dk : Bool) (sg : Int) (hsg : 0 ≤ sg) (a : Option Addr) (len cap : Nat) (z : List Int) {w : World} (hz : IsRow .u8 w a len cap z) (hT : Font.Tab w) (h3 : len ≤ 300) (h0 : 0 < len) :
    Calls Tryd.prog 5 #[.agg #[.int .i64 ct.a, .int .i64 ct.b, .int .i64 ct.c, .int .i64 ct.d, .int .i64 ct.x, .int .i64 ct.y, .int .i64 fx.a, .int .i64 fx.b, .int .i64 fx.c, .int .i64 fx.d, .int .i64 fx.x, .int .i64 fx.y, .int .i64 ft, .int .i64 x, .int .i64 y, .bool pl, .bool dk, .int .u8 sg], .slice a len cap] w fun e w' => e = .returned (.bool true) ∧ Up w w' := by
  have t0 : decide ((300 : Int) < (len : Int)) = false := decide_eq_false (by omega)
  have HNE := Lib.hid (show z.take len ≠ [] from fun e => by have h1 : (z.take len).length = len := ints_len hz.ints; rw [e] at h1; simp at h1; omega)
  have HT := Lib.hid hT
  have HZ := Lib.hid hz
  have HLNZ := Lib.hid (show (z.take len).length = len from ints_len hz.ints)
  have hcap := hz.le
  clear hz hT
  obtain ⟨n, hn⟩ : ∃ n, sg % 10 + 1 = n := ⟨_, rfl⟩
  go_enter Tryd.func5, Tryd.ntmps5
  go_wp2_with (first
    | ((refine at_op (.load 26 (.tmp 2)) rfl ?_); refine wpList_load_Row rfl 26 (.tmp 2) rfl w.heap.size rfl #[.int .i64 ct.a, .int .i64 ct.b, .int .i64 ct.c, .int .i64 ct.d, .int .i64 ct.x, .int .i64 ct.y, .int .i64 fx.a, .int .i64 fx.b, .int .i64 fx.c, .int .i64 fx.d, .int .i64 fx.x, .int .i64 fx.y, .int .i64 ft, .int .i64 x, .int .i64 y, .bool pl, .bool dk, .int .u8 sg] _ (by exact ra) Tryd.underlying26 rfl infoSet rfl ?_)
    | (go_at_call 7; ((with_reducible refine (open_callsX ct fx ft x y pl dk sg n hsg hn _ (HT.out.up HHW3.out)).mono ?_); rintro E w4 ⟨h, r, d, rv, u, C2, F2, FM2, T2, hC, hF, hFM, hTT, rfl, hg4, hp4, hc4, hs4, hu4, hL4⟩; (obtain rfl := HCC.out.symm.trans hC); (obtain rfl := HFF.out.symm.trans hF); (obtain rfl := HMM.out.symm.trans hFM); (obtain rfl := HTT.out.symm.trans hTT); (obtain ⟨vb, vd, rfl⟩ := Path.Segs.val hs4); have HD4 := Lib.hid (Duo.first HG1.out HP1.out HC1.out (lies_up HL1.out (show Up w _ by exact ua)) HHW1.out (Up.call HU13.out hu4) hg4 hp4 hc4 (lies_up hL4 HU13.out)); clear hC hF hFM hTT hg4 hp4 hc4 hs4 hL4; have HHW4 := Lib.hid (show Up w w4 from Up.call HHW3.out hu4); have z4 := hu4.size))
    | (go_at_call 7; ((with_reducible refine (open_callsX ct fx ft x y pl dk sg n hsg hn _ (HT.out.up (by exact ua))).mono ?_); rintro E w1 ⟨g, p, c, pv, v, C, F, FM, T, hC, hF, hFM, hTT, rfl, hg1, hp1, hc1, hs1, hu1, hL1⟩; have HTT := Lib.hid hTT; (obtain ⟨q, rfl, hq⟩ := to_of (by omega) hTT); (obtain ⟨va, vc, rfl⟩ := Path.Segs.val hs1); have HCC := Lib.hid hC; have HFF := Lib.hid hF; have HMM := Lib.hid hFM; have HC4 := Lib.hid (ctm_fit4 hC); have HM4 := Lib.hid (font_fit4 hFM); have HCW := Lib.hid (ctm_wf hC); have HF1 := Lib.hid (font_lt hF); have HFQ := Lib.hid hq; have HG1 := Lib.hid hg1; have HP1 := Lib.hid hp1; have HC1 := Lib.hid hc1; have HS1 := Lib.hid hs1; have HL1 := Lib.hid hL1; clear hC hF hFM hTT hg1 hp1 hc1 hs1 hL1 hq; have HHW1 := Lib.hid (show Up w w1 from (by exact ua)); have z1 := hu1.size; (try simp at z1)))
    | ((refine at_op (.store 42 (.tmp 7) _) rfl ?_); (refine wpList_store_Row rfl 42 (.tmp 7) _ rfl w1.heap.size (rsC C F FM dk n (.slice va (TO n q).l.length vc)) rfl rfl #[.int .i64 0, .int .i64 0, .int .i64 0, .int .i64 0, .int .i64 0, .int .i64 0, .int .i64 0, .int .i64 0, .int .i64 0, .int .i64 0, .int .i64 0, .int .i64 0, .int .i64 0, .int .i64 0, .int .i64 0, .slice none 0 0, .int .i64 0, .int .i64 0, .int .i64 0, .int .i64 0, .int .i64 0, .int .i64 0, .int .i64 0, .int .i64 0, .slice none 0 0, .bool false, .int .i64 0, .slice none 0 0] (by exact ra) infoRs rfl rfl (by simp [rsC, Value.oneCell']) ?_); intro w2 hr2 hc2; have z2 := hc2.size; (try simp at z2))
    | ((refine at_op (.store 48 (.tmp 8) _) rfl ?_); (refine wpList_store_Row rfl 48 (.tmp 8) _ rfl (w1.heap.size + 1) #[.int .i64 6553600, .int .i64 6553600, .slice none 0 0, .int .i64 2, .slice none 0 0] rfl rfl #[.int .i64 0, .int .i64 0, .slice none 0 0, .int .i64 0, .slice none 0 0] (by exact ra) infoCv rfl rfl (by simp [Value.oneCell']) ?_); intro w3 hr3 hc3; have z3 := hc3.size; (try simp at z3); have HU13 := Lib.hid (show Up w1 w3 from (show Chg [] w1 w3 by (repeat' (first | (with_reducible first | exact Chg.refl _ _ | assumption | refine Chg.alloc ?_ _ | refine Chg.drew ?_ | refine Chg.drewN ?_ _ | refine Chg.setCell ?_ ?_ _ | refine Chg.upc ?_ (by assumption) | refine Chg.call ?_ (by assumption) ?_) | (refine Or.inl ?_; (simp; done)) | (simp; done) | (simp; omega) | omega))).up); have HHW3 := Lib.hid (show Up w w3 from Up.call HHW1.out HU13.out))
    | ((refine at_op (.store 42 (.tmp 11) _) rfl ?_); (refine wpList_store_Row rfl 42 (.tmp 11) _ rfl w4.heap.size (rsC C F FM dk n (.slice vb (TO n q).l.length vd)) rfl rfl #[.int .i64 0, .int .i64 0, .int .i64 0, .int .i64 0, .int .i64 0, .int .i64 0, .int .i64 0, .int .i64 0, .int .i64 0, .int .i64 0, .int .i64 0, .int .i64 0, .int .i64 0, .int .i64 0, .int .i64 0, .slice none 0 0, .int .i64 0, .int .i64 0, .int .i64 0, .int .i64 0, .int .i64 0, .int .i64 0, .int .i64 0, .int .i64 0, .slice none 0 0, .bool false, .int .i64 0, .slice none 0 0] (by exact ra) infoRs rfl rfl (by simp [rsC, Value.oneCell']) ?_); intro w5 hr5 hc5; have z5 := hc5.size; (try simp at z5))
    | ((refine at_op (.store 48 (.tmp 12) _) rfl ?_); (refine wpList_store_Row rfl 48 (.tmp 12) _ rfl (w4.heap.size + 1) #[.int .i64 6553600, .int .i64 6553600, .slice none 0 0, .int .i64 2, .slice none 0 0] rfl rfl #[.int .i64 0, .int .i64 0, .slice none 0 0, .int .i64 0, .slice none 0 0] (by exact ra) infoCv rfl rfl (by simp [Value.oneCell']) ?_); intro w6 hr6 hc6; have z6 := hc6.size; (try simp at z6); have HU46 := Lib.hid (show Up w4 w6 from (show Chg [] w4 w6 by (repeat' (first | (with_reducible first | exact Chg.refl _ _ | assumption | refine Chg.alloc ?_ _ | refine Chg.drew ?_ | refine Chg.drewN ?_ _ | refine Chg.setCell ?_ ?_ _ | refine Chg.upc ?_ (by assumption) | refine Chg.call ?_ (by assumption) ?_) | (refine Or.inl ?_; (simp; done)) | (simp; done) | (simp; omega) | omega))).up); have HHW6 := Lib.hid (show Up w w6 from Up.call HHW4.out HU46.out); have HD6 := Lib.hid (HD4.out.chg HU46.out); have HTD := Lib.hid (HD6.out.tab HT.out); have HBO := Lib.hid (row_off HZ.out (S := p :: c :: (own pv ++ own (.slice none 0 0))) (fun b hb => HD6.out.na b (List.mem_cons_of_mem _ hb))))
    | (go_at_call 12; go_loud ((with_reducible refine (spaced_prg g p c C F FM dk n _ _ q [] 0 0 0 0 5 _ HD6.out.a HFQ.out a cap len (z.take len) HLNZ.out (HZ.out.ints.up HHW6.out) (by omega) (by simp) HF1.out HCW.out.1 HCW.out.2 HTD.out HBO.out).mono ?_); rintro E w7 ⟨hE7, hs7⟩; (obtain ⟨⟨K7, q7, i7⟩, hX⟩ : ∃ X, agR C F FM dk q (z.take len) = X := ⟨_, rfl⟩); rw [← again_eq C F FM dk HC4.out (z.take len) HNE.out q HFQ.out, hX] at hE7 hs7; subst hE7; (obtain ⟨pv7, v7, l7, hd7, hi7⟩ := HD6.out.shown hs7); have HX := Lib.hid hX; have HD7 := Lib.hid hd7; have HI7 := Lib.hid (show l7.map (·.it) = i7 by simpa using hi7); have HHW7 := Lib.hid (show Up w w7 from hd7.up); have z7 := HHW7.out.size; clear hs7 hX hd7 hi7)))
  obtain ⟨gb, ob, rfl, hgb, hcb⟩ := ints_some HZ.out.ints HLNZ.out h0
  have hcap2 := ints_cap HZ.out.ints HLNZ.out
  obtain ⟨hbc1, hbc2⟩ := hcap2
  go_loopw [14, 15] (fun s14 s15 wr => ∃ k : Nat, ∃ f : Int, ∃ qk its rvk uk l2k, k ≤ len ∧ s14 = .int .i64 f ∧ s15 = .int .i64 k ∧ Hid (Duo w wr g p c h r d C F FM dk n pv7 v7 rvk uk (TO n q7) (TO n qk) l7 l2k) ∧ Hid (l2k.map (·.it) = its) ∧ Hid (fitsO qk) ∧ Hid (its.length ≤ k) ∧ Hid (f = 0 → agR C F FM dk q (z.take len) = ((agR C F FM dk qk ((z.take len).drop k)).1, (agR C F FM dk qk ((z.take len).drop k)).2.1, its ++ (agR C F FM dk qk ((z.take len).drop k)).2.2)) ∧ Hid (f ≠ 0 → agR C F FM dk q (z.take len) = (f, qk, its))) (fun _ s15 _ => len - (intOf s15).toNat)
  case atStart => exact ⟨0, 0, q, [], _, _, [], Nat.zero_le _, rfl, rfl, HD7, Lib.hid rfl, HFQ, Lib.hid (Nat.le_refl _), Lib.hid (fun _ => by simp), Lib.hid (fun h => absurd rfl h)⟩

  case round =>
    obtain ⟨k, f, qk, its, rvk, uk, l2k, hk, rfl, rfl, HDK, HIK, HFK, HIL, HE0, HE1⟩ := hrel
    by_cases hlt : k < len
    · by_cases hf : f = 0
      · subst hf
        obtain ⟨b, hb⟩ : ∃ b, (z.take len)[k]? = some b := ⟨_, List.getElem?_eq_getElem (by have := HLNZ.out; omega)⟩
        have hcm := List.mem_of_getElem? hb
        have HWB := Lib.hid (HZ.out.ints.wf b hcm)
        have HBG := Lib.hid (show gb < wr.heap.size from Nat.lt_of_lt_of_le hgb HDK.out.up.size)
        have HCB := Lib.hid (show wr.cell? ⟨gb, ob + k, none⟩ = some (.int .u8 b) from by
          rw [HDK.out.up.cells.1 gb _ hgb, hcb k hlt]
          have : (z.take len).getD k 0 = b := by rw [List.getD_eq_getElem?_getD, hb]; rfl
          rw [this])
        have HAG := Lib.hid (agR_step (b := b) (rest := (z.take len).drop (k + 1)) (by rw [← drop_at hb]; exact HE0.out rfl))
        have hcast : decide ((k : Int) < (len : Int)) = true := decide_eq_true (by omega)
        clear hcm hb
        go_wp2_with (first
          | (go_at_call 11; go_loud ((with_reducible refine (show_prg h r d C F FM dk n _ _ qk l2k _ HDK.out.b HFK.out _ _ 1 [b] rfl (ints_one HBG.out HCB.out HWB.out (by omega) (by omega)) (by decide) (by have h1 := HIL.out; have h2 := its_len0 HIK.out; omega) HF1.out HCW.out.1 HCW.out.2 (HT.out.up HDK.out.up)).mono ?_); (obtain ⟨f2, hf2⟩ : ∃ K, (stepR C F FM dk qk [b]).1 = K := ⟨_, rfl⟩); rw [hf2]; rintro E w20 ⟨rfl, hs20⟩; have HS20 := Lib.hid hs20; have HF2 := Lib.hid hf2; clear hs20 hf2)))
        go_roundw
        case rel =>
          obtain ⟨rv2, u2, l22, hd2, hi2⟩ := HDK.out.symm.shown HS20.out
          exact ⟨k + 1, f2, _, its ++ (stepR C F FM dk qk [b]).2.2, rv2, u2, l22, by omega, rfl, by go_num, Lib.hid hd2.symm, Lib.hid (by rw [hi2, HIK.out]), Lib.hid (step_fits HFK.out), Lib.hid (by have h1 := (step_its C F FM dk qk [b]).1; have h2 := HIL.out; rw [List.length_append]; omega), Lib.hid (fun h => HAG.out.1 (HF2.out.trans h)), Lib.hid (fun h => by have h1 := HAG.out.2 (by rw [HF2.out]; exact h); rw [HF2.out] at h1; exact h1)⟩
        case measure => simp [intOf]; omega
      · have t2 : (f == 0) = false := by simpa using hf
        have t3 : ((len : Int) == 0) = false := by simp; omega
        have hcast : decide ((k : Int) < (len : Int)) = true := decide_eq_true (by omega)
        have hEND : agR C F FM dk q (z.take len) = (f, qk, its) := HE1.out hf
        have hq := HX.out.symm.trans hEND
        simp only [Prod.mk.injEq] at hq
        obtain ⟨rfl, rfl, rfl⟩ := hq
        have HEQL := Lib.hid (HI7.out.trans HIK.out.symm)
        have HI := Lib.hid (spR_its2 C F FM dk (z.take len) q)
        have HIL7 := Lib.hid (show i7.length ≤ 300 from by have h1 := HI.out.1; rw [HX.out, HLNZ.out] at h1; exact Nat.le_trans h1 h3)
        have HIB7 := Lib.hid (show ∀ i ∈ i7, i.bs.length ≤ 1 from by have h1 := HI.out.2; rw [HX.out] at h1; exact h1)
        obtain ⟨ML, hML⟩ : ∃ k, i7.length = k := ⟨_, rfl⟩
        have HML := Lib.hid (show ML ≤ 100000 by have := HIL7.out; omega)
        have HN7 := Lib.hid (show l7.length = ML from (its_len0 HI7.out).trans hML)
        have HNK := Lib.hid (show l2k.length = ML from (its_len0 HIK.out).trans hML)
        have HLN7 := Lib.hid (show l7.length ≤ 100000 by rw [HN7.out]; exact HML.out)
        have HLNK := Lib.hid (show l2k.length ≤ 100000 by rw [HNK.out]; exact HML.out)
        have HBS7 := Lib.hid (its_bs0 (q := 1000000) HI7.out (fun i hi => Nat.le_trans (HIB7.out i hi) (by decide)))
        have HBSK := Lib.hid (its_bs0 (q := 1000000) HIK.out (fun i hi => Nat.le_trans (HIB7.out i hi) (by decide)))
        have HQQ := Lib.hid (rfl : (TO n q7).l = (TO n q7).l)
        have HDT := HDK
        clear hML
        go_wp2_with (first
          | (go_at_call 6; go_loud ((with_reducible refine (answers_calls _ (HT.out.up HDT.out.up)).mono ?_); rintro E w30 ⟨rfl, hu30⟩; have HD30 := Lib.hid (HDT.out.chg hu30); clear hu30))
          | (go_at_call 14; go_loud ((with_reducible refine (items_calls c v7 l7 _ (HD30.out.a.cv.row.cell 2 rfl) HD30.out.a.cv.its HD30.out.a.cv.bytes HD30.out.a.lb HLN7.out HBS7.out).mono ?_); rintro E w31 ⟨v31, l31, rfl, hm31, hi31, hu31⟩; have HM31 := Lib.hid (mid_its hm31 hi31 HN7.out); have HB31 := Lib.hid hm31.bytes; (obtain ⟨a31, c31, rfl⟩ := HM31.out.2.2); have HE31 := Lib.hid hi31; have HD31 := Lib.hid (HD30.out.chg hu31); clear hm31 hi31 hu31))
          | (go_at_call 14; go_loud ((with_reducible refine (items_calls d _ l2k _ (HD31.out.b.cv.row.cell 2 rfl) HD31.out.b.cv.its HD31.out.b.cv.bytes HD31.out.b.lb HLNK.out HBSK.out).mono ?_); rintro E w32 ⟨v32, l32, rfl, hm32, hi32, hu32⟩; have HM32 := Lib.hid (mid_its hm32 hi32 HNK.out); have HB32 := Lib.hid hm32.bytes; (obtain ⟨a32, c32, rfl⟩ := HM32.out.2.2); have HE32 := Lib.hid hi32; have HD32 := Lib.hid (HD31.out.chg hu32); have HU32 := Lib.hid hu32; clear hm32 hi32 hu32))
          | (go_at_call 13; go_loud ((with_reducible refine (sameItems_calls a31 a32 ML c31 c32 l31 l32 _ HM31.out.2.1 (owned_up HM31.out.1 HU32.out) HM32.out.1 (HB31.out.chg (S := []) (Chg.of_up HU32.out) (by simp)) HB32.out ((HE31.out.trans HEQL.out).trans HE32.out.symm) HML.out (its_len HE31.out HBS7.out)).mono ?_); rintro E w33 ⟨rfl, hu33⟩; have HD33 := Lib.hid (HD32.out.chg hu33); clear hu33))
          | (go_at_call 16; ((with_reducible refine (path_calls g p _ (HD33.out.a.rg.cell 26 rfl)).mono ?_); rintro E w90 ⟨rfl, rfl⟩))
          | (go_at_call 17; go_loud ((with_reducible refine (Path.segments_calls p _ (TO n q7) _ HD33.out.a.pa).mono ?_); rintro E w34 ⟨v34, rfl, hs34, hu34, ho34⟩; have HS34 := Lib.hid hs34; have HD34 := Lib.hid (HD33.out.chg hu34); clear hs34 hu34 ho34))
          | (go_at_call 16; ((with_reducible refine (path_calls h r _ (HD34.out.b.rg.cell 26 rfl)).mono ?_); rintro E w90 ⟨rfl, rfl⟩))
          | (go_at_call 17; go_loud ((with_reducible refine (Path.segments_calls r _ (TO n q7) _ HD34.out.b.pa).mono ?_); rintro E w35 ⟨v35, rfl, hs35, hu35, ho35⟩; have HS35 := Lib.hid hs35; have HU35 := Lib.hid hu35; have HD35 := Lib.hid (HD34.out.chg hu35); clear hs35 hu35 ho35))
          | (go_at_call 15; go_loud ((with_reducible refine (Path.same_calls v34 v35 (TO n q7).l (TO n q7).l _ ((HS34.out.chg (S := []) (Chg.of_up HU35.out) (by simp)).v) HS35.out.v).mono ?_); rw [decide_eq_true (rfl : (TO n q7).l = (TO n q7).l)]; rintro E w36 ⟨rfl, hu36⟩)))
        go_ret
        exact ⟨rfl, Up.call HD35.out.up hu36⟩
    · have hcast : decide ((k : Int) < (len : Int)) = false := decide_eq_false (by omega)
      have t3 : ((len : Int) == 0) = false := by simp; omega
      have hEND : agR C F FM dk q (z.take len) = (f, qk, its) := by
        by_cases hf : f = 0
        · have h1 := HE0.out hf
          rw [show (z.take len).drop k = [] from List.drop_eq_nil_of_le (by have := HLNZ.out; omega)] at h1
          rw [h1, hf]
          simp [agR]
        · exact HE1.out hf
      have hq := HX.out.symm.trans hEND
      simp only [Prod.mk.injEq] at hq
      obtain ⟨rfl, rfl, rfl⟩ := hq
      have HEQL := Lib.hid (HI7.out.trans HIK.out.symm)
      have HI := Lib.hid (spR_its2 C F FM dk (z.take len) q)
      have HIL7 := Lib.hid (show i7.length ≤ 300 from by have h1 := HI.out.1; rw [HX.out, HLNZ.out] at h1; exact Nat.le_trans h1 h3)
      have HIB7 := Lib.hid (show ∀ i ∈ i7, i.bs.length ≤ 1 from by have h1 := HI.out.2; rw [HX.out] at h1; exact h1)
      obtain ⟨ML, hML⟩ : ∃ k, i7.length = k := ⟨_, rfl⟩
      have HML := Lib.hid (show ML ≤ 100000 by have := HIL7.out; omega)
      have HN7 := Lib.hid (show l7.length = ML from (its_len0 HI7.out).trans hML)
      have HNK := Lib.hid (show l2k.length = ML from (its_len0 HIK.out).trans hML)
      have HLN7 := Lib.hid (show l7.length ≤ 100000 by rw [HN7.out]; exact HML.out)
      have HLNK := Lib.hid (show l2k.length ≤ 100000 by rw [HNK.out]; exact HML.out)
      have HBS7 := Lib.hid (its_bs0 (q := 1000000) HI7.out (fun i hi => Nat.le_trans (HIB7.out i hi) (by decide)))
      have HBSK := Lib.hid (its_bs0 (q := 1000000) HIK.out (fun i hi => Nat.le_trans (HIB7.out i hi) (by decide)))
      have HQQ := Lib.hid (rfl : (TO n q7).l = (TO n q7).l)
      have HDT := HDK
      clear hML
      go_wp2_with (first
        | (go_at_call 6; go_loud ((with_reducible refine (answers_calls _ (HT.out.up HDT.out.up)).mono ?_); rintro E w30 ⟨rfl, hu30⟩; have HD30 := Lib.hid (HDT.out.chg hu30); clear hu30))
        | (go_at_call 14; go_loud ((with_reducible refine (items_calls c v7 l7 _ (HD30.out.a.cv.row.cell 2 rfl) HD30.out.a.cv.its HD30.out.a.cv.bytes HD30.out.a.lb HLN7.out HBS7.out).mono ?_); rintro E w31 ⟨v31, l31, rfl, hm31, hi31, hu31⟩; have HM31 := Lib.hid (mid_its hm31 hi31 HN7.out); have HB31 := Lib.hid hm31.bytes; (obtain ⟨a31, c31, rfl⟩ := HM31.out.2.2); have HE31 := Lib.hid hi31; have HD31 := Lib.hid (HD30.out.chg hu31); clear hm31 hi31 hu31))
        | (go_at_call 14; go_loud ((with_reducible refine (items_calls d _ l2k _ (HD31.out.b.cv.row.cell 2 rfl) HD31.out.b.cv.its HD31.out.b.cv.bytes HD31.out.b.lb HLNK.out HBSK.out).mono ?_); rintro E w32 ⟨v32, l32, rfl, hm32, hi32, hu32⟩; have HM32 := Lib.hid (mid_its hm32 hi32 HNK.out); have HB32 := Lib.hid hm32.bytes; (obtain ⟨a32, c32, rfl⟩ := HM32.out.2.2); have HE32 := Lib.hid hi32; have HD32 := Lib.hid (HD31.out.chg hu32); have HU32 := Lib.hid hu32; clear hm32 hi32 hu32))
        | (go_at_call 13; go_loud ((with_reducible refine (sameItems_calls a31 a32 ML c31 c32 l31 l32 _ HM31.out.2.1 (owned_up HM31.out.1 HU32.out) HM32.out.1 (HB31.out.chg (S := []) (Chg.of_up HU32.out) (by simp)) HB32.out ((HE31.out.trans HEQL.out).trans HE32.out.symm) HML.out (its_len HE31.out HBS7.out)).mono ?_); rintro E w33 ⟨rfl, hu33⟩; have HD33 := Lib.hid (HD32.out.chg hu33); clear hu33))
        | (go_at_call 16; ((with_reducible refine (path_calls g p _ (HD33.out.a.rg.cell 26 rfl)).mono ?_); rintro E w90 ⟨rfl, rfl⟩))
        | (go_at_call 17; go_loud ((with_reducible refine (Path.segments_calls p _ (TO n q7) _ HD33.out.a.pa).mono ?_); rintro E w34 ⟨v34, rfl, hs34, hu34, ho34⟩; have HS34 := Lib.hid hs34; have HD34 := Lib.hid (HD33.out.chg hu34); clear hs34 hu34 ho34))
        | (go_at_call 16; ((with_reducible refine (path_calls h r _ (HD34.out.b.rg.cell 26 rfl)).mono ?_); rintro E w90 ⟨rfl, rfl⟩))
        | (go_at_call 17; go_loud ((with_reducible refine (Path.segments_calls r _ (TO n q7) _ HD34.out.b.pa).mono ?_); rintro E w35 ⟨v35, rfl, hs35, hu35, ho35⟩; have HS35 := Lib.hid hs35; have HU35 := Lib.hid hu35; have HD35 := Lib.hid (HD34.out.chg hu35); clear hs35 hu35 ho35))
        | (go_at_call 15; go_loud ((with_reducible refine (Path.same_calls v34 v35 (TO n q7).l (TO n q7).l _ ((HS34.out.chg (S := []) (Chg.of_up HU35.out) (by simp)).v) HS35.out.v).mono ?_); rw [decide_eq_true (rfl : (TO n q7).l = (TO n q7).l)]; rintro E w36 ⟨rfl, hu36⟩)))
      go_ret
      exact ⟨rfl, Up.call HD35.out.up hu36⟩

set_option maxRecDepth 8000 in
set_option maxHeartbeats 8000000 in
theorem walk_none (ct fx : M6) (ft x y : Int) (pl dk : Bool) (sg : Int) (hsg : 0 ≤ sg) (a : Option Addr) (cap : Nat) (z : List Int) {w : World} (hz : IsRow .u8 w a 0 cap z) (hT : Font.Tab w) (h3 : 0 ≤ 300) (h0 : 0 = 0) :
    Calls Tryd.prog 5 #[.agg #[.int .i64 ct.a, .int .i64 ct.b, .int .i64 ct.c, .int .i64 ct.d, .int .i64 ct.x, .int .i64 ct.y, .int .i64 fx.a, .int .i64 fx.b, .int .i64 fx.c, .int .i64 fx.d, .int .i64 fx.x, .int .i64 fx.y, .int .i64 ft, .int .i64 x, .int .i64 y, .bool pl, .bool dk, .int .u8 sg], .slice a 0 cap] w fun e w' => e = .returned (.bool true) ∧ Up w w' := by
  have t0 : decide ((300 : Int) < (0 : Int)) = false := decide_eq_false (by omega)
  have HZN := Lib.hid (show z.take 0 = [] from List.take_zero)
  have HT := Lib.hid hT
  have HZ := Lib.hid hz
  have HLNZ := Lib.hid (show (z.take 0).length = 0 from ints_len hz.ints)
  have hcap := hz.le
  clear hz hT
  obtain ⟨n, hn⟩ : ∃ n, sg % 10 + 1 = n := ⟨_, rfl⟩
  go_enter Tryd.func5, Tryd.ntmps5
  go_wp2_with (first
    | ((refine at_op (.load 26 (.tmp 2)) rfl ?_); refine wpList_load_Row rfl 26 (.tmp 2) rfl w.heap.size rfl #[.int .i64 ct.a, .int .i64 ct.b, .int .i64 ct.c, .int .i64 ct.d, .int .i64 ct.x, .int .i64 ct.y, .int .i64 fx.a, .int .i64 fx.b, .int .i64 fx.c, .int .i64 fx.d, .int .i64 fx.x, .int .i64 fx.y, .int .i64 ft, .int .i64 x, .int .i64 y, .bool pl, .bool dk, .int .u8 sg] _ (by exact ra) Tryd.underlying26 rfl infoSet rfl ?_)
    | (go_at_call 7; ((with_reducible refine (open_callsX ct fx ft x y pl dk sg n hsg hn _ (HT.out.up HHW3.out)).mono ?_); rintro E w4 ⟨h, r, d, rv, u, C2, F2, FM2, T2, hC, hF, hFM, hTT, rfl, hg4, hp4, hc4, hs4, hu4, hL4⟩; (obtain rfl := HCC.out.symm.trans hC); (obtain rfl := HFF.out.symm.trans hF); (obtain rfl := HMM.out.symm.trans hFM); (obtain rfl := HTT.out.symm.trans hTT); (obtain ⟨vb, vd, rfl⟩ := Path.Segs.val hs4); have HD4 := Lib.hid (Duo.first HG1.out HP1.out HC1.out (lies_up HL1.out (show Up w _ by exact ua)) HHW1.out (Up.call HU13.out hu4) hg4 hp4 hc4 (lies_up hL4 HU13.out)); clear hC hF hFM hTT hg4 hp4 hc4 hs4 hL4; have HHW4 := Lib.hid (show Up w w4 from Up.call HHW3.out hu4); have z4 := hu4.size))
    | (go_at_call 7; ((with_reducible refine (open_callsX ct fx ft x y pl dk sg n hsg hn _ (HT.out.up (by exact ua))).mono ?_); rintro E w1 ⟨g, p, c, pv, v, C, F, FM, T, hC, hF, hFM, hTT, rfl, hg1, hp1, hc1, hs1, hu1, hL1⟩; have HTT := Lib.hid hTT; (obtain ⟨q, rfl, hq⟩ := to_of (by omega) hTT); (obtain ⟨va, vc, rfl⟩ := Path.Segs.val hs1); have HCC := Lib.hid hC; have HFF := Lib.hid hF; have HMM := Lib.hid hFM; have HC4 := Lib.hid (ctm_fit4 hC); have HM4 := Lib.hid (font_fit4 hFM); have HCW := Lib.hid (ctm_wf hC); have HF1 := Lib.hid (font_lt hF); have HFQ := Lib.hid hq; have HG1 := Lib.hid hg1; have HP1 := Lib.hid hp1; have HC1 := Lib.hid hc1; have HS1 := Lib.hid hs1; have HL1 := Lib.hid hL1; clear hC hF hFM hTT hg1 hp1 hc1 hs1 hL1 hq; have HHW1 := Lib.hid (show Up w w1 from (by exact ua)); have z1 := hu1.size; (try simp at z1)))
    | ((refine at_op (.store 42 (.tmp 7) _) rfl ?_); (refine wpList_store_Row rfl 42 (.tmp 7) _ rfl w1.heap.size (rsC C F FM dk n (.slice va (TO n q).l.length vc)) rfl rfl #[.int .i64 0, .int .i64 0, .int .i64 0, .int .i64 0, .int .i64 0, .int .i64 0, .int .i64 0, .int .i64 0, .int .i64 0, .int .i64 0, .int .i64 0, .int .i64 0, .int .i64 0, .int .i64 0, .int .i64 0, .slice none 0 0, .int .i64 0, .int .i64 0, .int .i64 0, .int .i64 0, .int .i64 0, .int .i64 0, .int .i64 0, .int .i64 0, .slice none 0 0, .bool false, .int .i64 0, .slice none 0 0] (by exact ra) infoRs rfl rfl (by simp [rsC, Value.oneCell']) ?_); intro w2 hr2 hc2; have z2 := hc2.size; (try simp at z2))
    | ((refine at_op (.store 48 (.tmp 8) _) rfl ?_); (refine wpList_store_Row rfl 48 (.tmp 8) _ rfl (w1.heap.size + 1) #[.int .i64 6553600, .int .i64 6553600, .slice none 0 0, .int .i64 2, .slice none 0 0] rfl rfl #[.int .i64 0, .int .i64 0, .slice none 0 0, .int .i64 0, .slice none 0 0] (by exact ra) infoCv rfl rfl (by simp [Value.oneCell']) ?_); intro w3 hr3 hc3; have z3 := hc3.size; (try simp at z3); have HU13 := Lib.hid (show Up w1 w3 from (show Chg [] w1 w3 by (repeat' (first | (with_reducible first | exact Chg.refl _ _ | assumption | refine Chg.alloc ?_ _ | refine Chg.drew ?_ | refine Chg.drewN ?_ _ | refine Chg.setCell ?_ ?_ _ | refine Chg.upc ?_ (by assumption) | refine Chg.call ?_ (by assumption) ?_) | (refine Or.inl ?_; (simp; done)) | (simp; done) | (simp; omega) | omega))).up); have HHW3 := Lib.hid (show Up w w3 from Up.call HHW1.out HU13.out))
    | ((refine at_op (.store 42 (.tmp 11) _) rfl ?_); (refine wpList_store_Row rfl 42 (.tmp 11) _ rfl w4.heap.size (rsC C F FM dk n (.slice vb (TO n q).l.length vd)) rfl rfl #[.int .i64 0, .int .i64 0, .int .i64 0, .int .i64 0, .int .i64 0, .int .i64 0, .int .i64 0, .int .i64 0, .int .i64 0, .int .i64 0, .int .i64 0, .int .i64 0, .int .i64 0, .int .i64 0, .int .i64 0, .slice none 0 0, .int .i64 0, .int .i64 0, .int .i64 0, .int .i64 0, .int .i64 0, .int .i64 0, .int .i64 0, .int .i64 0, .slice none 0 0, .bool false, .int .i64 0, .slice none 0 0] (by exact ra) infoRs rfl rfl (by simp [rsC, Value.oneCell']) ?_); intro w5 hr5 hc5; have z5 := hc5.size; (try simp at z5))
    | ((refine at_op (.store 48 (.tmp 12) _) rfl ?_); (refine wpList_store_Row rfl 48 (.tmp 12) _ rfl (w4.heap.size + 1) #[.int .i64 6553600, .int .i64 6553600, .slice none 0 0, .int .i64 2, .slice none 0 0] rfl rfl #[.int .i64 0, .int .i64 0, .slice none 0 0, .int .i64 0, .slice none 0 0] (by exact ra) infoCv rfl rfl (by simp [Value.oneCell']) ?_); intro w6 hr6 hc6; have z6 := hc6.size; (try simp at z6); have HU46 := Lib.hid (show Up w4 w6 from (show Chg [] w4 w6 by (repeat' (first | (with_reducible first | exact Chg.refl _ _ | assumption | refine Chg.alloc ?_ _ | refine Chg.drew ?_ | refine Chg.drewN ?_ _ | refine Chg.setCell ?_ ?_ _ | refine Chg.upc ?_ (by assumption) | refine Chg.call ?_ (by assumption) ?_) | (refine Or.inl ?_; (simp; done)) | (simp; done) | (simp; omega) | omega))).up); have HHW6 := Lib.hid (show Up w w6 from Up.call HHW4.out HU46.out); have HD6 := Lib.hid (HD4.out.chg HU46.out); have HTD := Lib.hid (HD6.out.tab HT.out); have HBO := Lib.hid (row_off HZ.out (S := p :: c :: (own pv ++ own (.slice none 0 0))) (fun b hb => HD6.out.na b (List.mem_cons_of_mem _ hb))))
    | (go_at_call 12; go_loud ((with_reducible refine (spaced_prg g p c C F FM dk n _ _ q [] 0 0 0 0 5 _ HD6.out.a HFQ.out a cap 0 (z.take 0) HLNZ.out (HZ.out.ints.up HHW6.out) (by omega) (by simp) HF1.out HCW.out.1 HCW.out.2 HTD.out HBO.out).mono ?_); rintro E w7 ⟨hE7, hs7⟩; (obtain ⟨⟨K7, q7, i7⟩, hX⟩ : ∃ X, spO C F FM dk (0, 0) (0, 0) 5 q (z.take 0) = X := ⟨_, rfl⟩); rw [hX] at hE7 hs7; subst hE7; (obtain ⟨pv7, v7, l7, hd7, hi7⟩ := HD6.out.shown hs7); have HX := Lib.hid hX; have HD7 := Lib.hid hd7; have HI7 := Lib.hid (show l7.map (·.it) = i7 by simpa using hi7); have HHW7 := Lib.hid (show Up w w7 from hd7.up); have z7 := HHW7.out.size; clear hs7 hX hd7 hi7)))
  refine wp_loop_rounds 1 ?_
  rw [rounds_succ]
  go_wp2_with (first
    | (go_at_call 11; go_loud ((with_reducible refine (show_prg h r d C F FM dk n _ _ q [] _ HD7.out.b HFQ.out none 0 0 [] rfl (none_ints _) (by decide) (by decide) HF1.out HCW.out.1 HCW.out.2 (HT.out.up HHW7.out)).mono ?_); rintro E w20 ⟨hE20, hs20⟩; (obtain ⟨rvk, uk, l2k, hd20, hi20⟩ := HD7.out.symm.shown hs20); have h20 := again_nil C F FM dk HC4.out HM4.out q HFQ.out; have hX := HX.out; rw [HZN.out] at hX; rw [hX] at h20; rw [← h20.1] at hE20; subst hE20; (obtain ⟨qk, hqk⟩ : ∃ K, (stepR C F FM dk q []).2.1 = K := ⟨_, rfl⟩); rw [hqk] at hd20; have HDT := Lib.hid hd20.symm; have HIK := Lib.hid (show l2k.map (·.it) = i7 by rw [hi20]; simpa using h20.2.symm); have HEQL := Lib.hid (HI7.out.trans HIK.out.symm); have HII := Lib.hid (show i7.length ≤ 1 ∧ ∀ i ∈ i7, i.bs.length ≤ 1 from (by rw [show i7 = (stepR C F FM dk q []).2.2 from h20.2]; refine ⟨(step_its ..).1, fun i hi => ?_⟩; rw [(step_its ..).2 i hi]; decide)); (obtain ⟨ML, hML⟩ : ∃ k, i7.length = k := ⟨_, rfl⟩); have HML := Lib.hid (show ML ≤ 100000 by have := HII.out.1; omega); have HN7 := Lib.hid (show l7.length = ML from (its_len0 HI7.out).trans hML); have HNK := Lib.hid (show l2k.length = ML from (its_len0 HIK.out).trans hML); have HLN7 := Lib.hid (show l7.length ≤ 100000 by rw [HN7.out]; exact HML.out); have HLNK := Lib.hid (show l2k.length ≤ 100000 by rw [HNK.out]; exact HML.out); have HBS7 := Lib.hid (its_bs0 (q := 1000000) HI7.out (fun i hi => Nat.le_trans (HII.out.2 i hi) (by decide))); have HBSK := Lib.hid (its_bs0 (q := 1000000) HIK.out (fun i hi => Nat.le_trans (HII.out.2 i hi) (by decide))); clear hs20 hd20 hi20 h20 hX hqk hML))
    | (go_at_call 6; go_loud ((with_reducible refine (answers_calls _ (HT.out.up HDT.out.up)).mono ?_); rintro E w30 ⟨rfl, hu30⟩; have HD30 := Lib.hid (HDT.out.chg hu30); clear hu30))
    | (go_at_call 14; go_loud ((with_reducible refine (items_calls c v7 l7 _ (HD30.out.a.cv.row.cell 2 rfl) HD30.out.a.cv.its HD30.out.a.cv.bytes HD30.out.a.lb HLN7.out HBS7.out).mono ?_); rintro E w31 ⟨v31, l31, rfl, hm31, hi31, hu31⟩; have HM31 := Lib.hid (mid_its hm31 hi31 HN7.out); have HB31 := Lib.hid hm31.bytes; (obtain ⟨a31, c31, rfl⟩ := HM31.out.2.2); have HE31 := Lib.hid hi31; have HD31 := Lib.hid (HD30.out.chg hu31); clear hm31 hi31 hu31))
    | (go_at_call 14; go_loud ((with_reducible refine (items_calls d _ l2k _ (HD31.out.b.cv.row.cell 2 rfl) HD31.out.b.cv.its HD31.out.b.cv.bytes HD31.out.b.lb HLNK.out HBSK.out).mono ?_); rintro E w32 ⟨v32, l32, rfl, hm32, hi32, hu32⟩; have HM32 := Lib.hid (mid_its hm32 hi32 HNK.out); have HB32 := Lib.hid hm32.bytes; (obtain ⟨a32, c32, rfl⟩ := HM32.out.2.2); have HE32 := Lib.hid hi32; have HD32 := Lib.hid (HD31.out.chg hu32); have HU32 := Lib.hid hu32; clear hm32 hi32 hu32))
    | (go_at_call 13; go_loud ((with_reducible refine (sameItems_calls a31 a32 ML c31 c32 l31 l32 _ HM31.out.2.1 (owned_up HM31.out.1 HU32.out) HM32.out.1 (HB31.out.chg (S := []) (Chg.of_up HU32.out) (by simp)) HB32.out ((HE31.out.trans HEQL.out).trans HE32.out.symm) HML.out (its_len HE31.out HBS7.out)).mono ?_); rintro E w33 ⟨rfl, hu33⟩; have HD33 := Lib.hid (HD32.out.chg hu33); clear hu33)))
  go_ret
  exact ⟨rfl, HD33.out.up⟩

end Go.Proofs.YtjdbefpfjhdmoaaDoor.showAgain
end
