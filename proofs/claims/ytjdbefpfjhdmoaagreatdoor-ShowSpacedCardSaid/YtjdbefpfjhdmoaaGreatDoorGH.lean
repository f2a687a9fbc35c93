/- show.on at a place. No condition. show.Spaced at a place. Its conditions: the fonts' names lie as they are laid; few bytes, room on the page. show.Spaced without a font or a place. No condition. What Spaced leaves of program and reference together. Its conditions: the fonts' names lie as they are laid; few bytes, room on the page. -/
import Derived.Test.YtjdbefpfjhdmoaaGreatDoorGB
import Derived.Test.YtjdbefpfjhdmoaaGreatDoorGA
import Derived.Test.YtjdbefpfjhdmoaaGreatDoorGE
namespace Go.Proofs.YtjdbefpfjhdmoaaGreatDoor.ZGH
open Go.ChangeShapes Go.WideShapes Go.ChangeAt Go.RowKit
theorem ra {w : World} {b : Nat} {cs : Array Value} (h : Row w b cs := by (repeat' (with_reducible first | assumption | (refine Row.at _ _ ?_; (simp; done)) | refine Row.alloc ?_ _ | refine Row.drew ?_ | refine Row.drewN ?_ _ | refine Row.other ?_ (by first | (simp; done) | (simp; omega) | omega) _ | refine Row.up ?_ (by assumption) | refine Row.chg ?_ (by assumption) (by first | (simp; done) | (simp; omega))))) : Row w b cs := h
theorem ua {w v : World} (h : Up w v := by (repeat' (first | (with_reducible first | exact Up.refl _ | assumption | refine Up.alloc ?_ _ | refine Up.drew ?_ | refine Up.drewN ?_ _ | refine Up.setCell ?_ ?_ _ | refine Up.call ?_ (by assumption)) | go_size))) : Up w v := h
theorem ro {w : World} {b : Nat} {cs : Array Value} (h : Row w b cs := by apply cast; (case h => (repeat (first | (with_reducible first | assumption | (apply Row.at; (simp; done)) | apply Row.alloc | apply Row.drew | apply Row.drewN | apply Row.set) | ((with_reducible apply Row.other); (case hp => first | (simp; done) | (simp; omega) | omega))))); (case e => rfl)) : Row w b cs := h
end Go.Proofs.YtjdbefpfjhdmoaaGreatDoor.ZGH
section
namespace Go.Proofs.YtjdbefpfjhdmoaaGreatDoor.Sh
open List renaming getElem_toArray → lga, getElem_cons_zero → lgz, getElem_cons_succ → lgs, setIfInBounds_toArray → lsa, set_cons_zero → lsz, set_cons_succ → lss
open Go.Proofs.YtjdbefpfjhdmoaaGreatDoor.ZGH
open Go.ChangeShapes Go.WideShapes Go.ChangeAt Go.RowKit
open Go.Proofs.YtjdbefpfjhdmoaaGreatDoor.Gs
open Go.Proofs.YtjdbefpfjhdmoaaGreatDoor.MatM (M6)
open Go.Proofs.YtjdbefpfjhdmoaaGreatDoor.PathM
set_option linter.unusedVariables false
set_option linter.unusedSimpArgs false

theorem now_callsL (b : Nat) (c : M6) (wd ph fn : Int) (fm : M6) (dk : Bool) (p : Nat) (most segs : Int) (w : World) (h : Row w b (gsC c wd (.slice none 0 0) ph fn fm dk p most segs)) :
    Calls Tryz.prog 44 #[.pointer (some ⟨b, 0, none⟩)] w fun E w' => (∃ gc, E = .returned (.agg #[.int .i64 c.a, .int .i64 c.b, .int .i64 c.c, .int .i64 c.d, .int .i64 c.x, .int .i64 c.y, .int .i64 1, .int .i64 0, .int .i64 0, .int .i64 0, .int .i64 0, .int .i64 wd, .int .i64 0, .int .i64 0, .int .i64 655360, .slice none 0 0, .int .i64 ph, .int .i64 fn, .int .i64 fm.a, .int .i64 fm.b, .int .i64 fm.c, .int .i64 fm.d, .int .i64 fm.x, .int .i64 fm.y, .slice (some ⟨gc, 0, none⟩) 0 0, .bool dk])) ∧ Up w w' :=
  (now_calls b c wd ph fn fm dk p most segs w h).mono (by
    rintro E w' ⟨⟨gc, _, _, rfl⟩, hu⟩
    exact ⟨⟨gc, rfl⟩, hu⟩)
theorem s4_of {w : World} {a b : Nat} {x y bx bz : Int} (h : Row w a #[.int .i64 x, .int .i64 y]) (h2 : Row w b #[.int .i64 bx, .int .i64 bz]) : w.cell? ⟨a, 0, none⟩ = some (.int .i64 x) ∧ w.cell? ⟨a, 1, none⟩ = some (.int .i64 y) ∧ w.cell? ⟨b, 0, none⟩ = some (.int .i64 bx) ∧ w.cell? ⟨b, 1, none⟩ = some (.int .i64 bz) := ⟨h.cell 0 rfl, h.cell 1 rfl, h2.cell 0 rfl, h2.cell 1 rfl⟩

set_option maxRecDepth 8000 in
set_option maxHeartbeats 4000000 in
theorem on_bad (g p : Nat) (C : M6) (F : Int) (FM : M6) (dk : Bool) (n : Int) (pv : Value) (T : St) (x y bx bz tx tz : Int) (w : World) (hg : Row w g (gsC C 65536 (.slice none 0 0) 0 F FM dk p 2 n)) (hp : Path.PathIs w p pv T) (hcu : Path.St.cur T = ((x, y), 0)) (e : Int) (hM : movedR C x y bx bz = ((tx, tz), e)) (he : e ≠ 0) :
    Calls Tryz.prog 38 #[.pointer (some ⟨g, 0, none⟩), .agg #[.int .i64 bx, .int .i64 bz]] w fun E w' => E = .returned (.int .i64 e) ∧ Up w w' := by
  have HG := Lib.hid hg
  have HP := Lib.hid hp
  have HCU := Lib.hid hcu
  have HLP := Lib.hid hp.row.lt
  have HLV := Lib.hid (pv_lt hp)
  have HM := Lib.hid hM
  have t0 : (e == 0) = false := by simpa using he
  clear hM he
  clear hg hp hcu
  go_enter Tryz.func38, Tryz.ntmps38
  go_wp2_with (first
    | (go_at_call 20; ((with_reducible refine (path_calls g p _ ((HG.out.up (show Chg [] w _ from (by (repeat' (first | (with_reducible first | exact Chg.refl _ _ | assumption | refine Chg.alloc ?_ _ | refine Chg.drew ?_ | refine Chg.drewN ?_ _ | refine Chg.setCell ?_ ?_ _ | refine Chg.upc ?_ (by assumption) | refine Chg.call ?_ (by assumption) ?_) | (refine Or.inl ?_; (simp; done)) | (simp; done) | (simp; omega) | omega)))).up).cell 26 rfl)).mono ?_); rintro E w90 ⟨rfl, rfl⟩))
    | (go_at_call 52; ((with_reducible refine (Path.current_calls p pv T _ (HP.out.up (show Chg [] w _ from (by (repeat' (first | (with_reducible first | exact Chg.refl _ _ | assumption | refine Chg.alloc ?_ _ | refine Chg.drew ?_ | refine Chg.drewN ?_ _ | refine Chg.setCell ?_ ?_ _ | refine Chg.upc ?_ (by assumption) | refine Chg.call ?_ (by assumption) ?_) | (refine Or.inl ?_; (simp; done)) | (simp; done) | (simp; omega) | omega)))).up)).mono ?_); rw [HCU.out]; rintro E w1 ⟨rfl, hu1⟩; have z1 := hu1.size; (try simp at z1); have R3_w1 : Row w1 w.heap.size #[.int .i64 bx, .int .i64 bz] := Row.up (show Row _ w.heap.size #[.int .i64 bx, .int .i64 bz] from (by exact ra)) hu1)))
  refine wp_region_held_drew (S := fun w' => w'.cell? ⟨w1.heap.size, 0, none⟩ = some (.int .i64 x) ∧ w'.cell? ⟨w1.heap.size, 1, none⟩ = some (.int .i64 y) ∧ w'.cell? ⟨w.heap.size, 0, none⟩ = some (.int .i64 bx) ∧ w'.cell? ⟨w.heap.size, 1, none⟩ = some (.int .i64 bz)) (by kernel_rfl) ?_ (fun hHeld => ?_)
  · exact s4_of (show Row _ w1.heap.size #[.int .i64 x, .int .i64 y] from (by exact ra)) (show Row _ w.heap.size #[.int .i64 bx, .int .i64 bz] from (by exact ra))
  refine wpAnyH_take (i := 0) (v := ?_) rfl (by kernel_rfl) (by kernel_rfl) (by kernel_rfl) (fun _ _ _ h => h) (Or.inl ⟨by rfl, ?_⟩) (by assumption) ?_
  rotate_left
  · intro w2 hSw
    (try dsimp only at hSw)
    (try (obtain ⟨s0, s1, s2, s3⟩ := hSw))
    go_simp
    (try (with_reducible rfl))
  (try simp only [Act.put, lga, lgz, lgs, lsa, lsz, lss])
  refine wpAnyH_take (i := 2) (v := ?_) rfl (by kernel_rfl) (by kernel_rfl) (by kernel_rfl) (fun _ _ _ h => h) (Or.inl ⟨by rfl, ?_⟩) (by assumption) ?_
  rotate_left
  · intro w2 hSw
    (try dsimp only at hSw)
    (try (obtain ⟨s0, s1, s2, s3⟩ := hSw))
    go_simp
    (try (with_reducible rfl))
  (try simp only [Act.put, lga, lgz, lgs, lsa, lsz, lss])
  refine wpAnyH_take (i := 3) (v := ?_) rfl (by kernel_rfl) (by kernel_rfl) (by kernel_rfl) (fun _ _ _ h => h) (Or.inl ⟨by rfl, ?_⟩) (by assumption) ?_
  rotate_left
  · intro w2 hSw
    (try dsimp only at hSw)
    (try (obtain ⟨s0, s1, s2, s3⟩ := hSw))
    go_simp
    (try (with_reducible rfl))
  (try simp only [Act.put, lga, lgz, lgs, lsa, lsz, lss])
  refine wpAnyH_ready (rs := [1, 8]) (by decide +kernel) (by simp) ?_
  refine AllReadyH.cons rfl (fun K hK => ?_) (AllReadyH.cons rfl (fun K hK => ?_) (AllReadyH.nil))
  · skip
    (try simp only [lga, lgz, lgs])
    (go_simp; go_at_call 44; (with_reducible refine (now_callsL g C 65536 0 F FM dk p 2 n _ (HG.out.up (show Chg [] w _ from (by (repeat' (first | (with_reducible first | exact Chg.refl _ _ | assumption | refine Chg.alloc ?_ _ | refine Chg.drew ?_ | refine Chg.drewN ?_ _ | refine Chg.setCell ?_ ?_ _ | refine Chg.upc ?_ (by assumption) | refine Chg.call ?_ (by assumption) ?_) | (refine Or.inl ?_; (simp; done)) | (simp; done) | (simp; omega) | omega)))).up)).mono ?_); rintro E w2 ⟨⟨gc, rfl⟩, hu2⟩; have z2 := hu2.size; (try simp at z2); have R5_w2 : Row w2 w1.heap.size #[.int .i64 x, .int .i64 y] := Row.up (show Row _ w1.heap.size #[.int .i64 x, .int .i64 y] from (by exact ra)) hu2; have R3_w2 : Row w2 w.heap.size #[.int .i64 bx, .int .i64 bz] := Row.up (show Row _ w.heap.size #[.int .i64 bx, .int .i64 bz] from (by exact ra)) hu2; (try dsimp only))
    refine hK.out _ _ ?_ (fun hHeld => ?_)
    · exact s4_of R5_w2 R3_w2
    clear hK K
    (try simp only [Act.put, lga, lgz, lgs, lsa, lsz, lss])
    refine wpAnyH_ready (rs := [4, 8]) (by decide +kernel) (by simp) ?_
    refine AllReadyH.cons rfl (fun K hK => ?_) (AllReadyH.cons rfl (fun K hK => ?_) (AllReadyH.nil))
    · skip
      (try simp only [lga, lgz, lgs])
      (go_simp; go_at_call 25; (with_reducible refine (moved_calls C 65536 0 F FM _ dk x y bx bz _).mono ?_); rw [HM.out]; rintro E w3 ⟨rfl, hu3⟩; have z3 := hu3.size; (try simp at z3); have R5_w3 : Row w3 w1.heap.size #[.int .i64 x, .int .i64 y] := Row.up (show Row _ w1.heap.size #[.int .i64 x, .int .i64 y] from (by exact ra)) hu3; have R3_w3 : Row w3 w.heap.size #[.int .i64 bx, .int .i64 bz] := Row.up (show Row _ w.heap.size #[.int .i64 bx, .int .i64 bz] from (by exact ra)) hu3; have u3 : Up w w3 := (show Chg [] w w3 by (repeat' (first | (with_reducible first | exact Chg.refl _ _ | assumption | refine Chg.alloc ?_ _ | refine Chg.drew ?_ | refine Chg.drewN ?_ _ | refine Chg.setCell ?_ ?_ _ | refine Chg.upc ?_ (by assumption) | refine Chg.call ?_ (by assumption) ?_) | (refine Or.inl ?_; (simp; done)) | (simp; done) | (simp; omega) | omega))).up; (try dsimp only))
      refine hK.out _ _ ?_ (fun hHeld => ?_)
      · exact s4_of R5_w3 R3_w3
      clear hK K
      (try simp only [Act.put, lga, lgz, lgs, lsa, lsz, lss])
      refine wpAnyH_take (i := 5) (v := ?_) rfl (by kernel_rfl) (by kernel_rfl) (by kernel_rfl) (fun _ _ _ h => h) (Or.inl ⟨by rfl, ?_⟩) (by assumption) ?_
      rotate_left
      · intro w2 hSw
        (try dsimp only at hSw)
        (try (obtain ⟨s0, s1, s2, s3⟩ := hSw))
        go_simp
        (try (with_reducible rfl))
      (try simp only [Act.put, lga, lgz, lgs, lsa, lsz, lss])
      refine wpAnyH_take (i := 6) (v := ?_) rfl (by kernel_rfl) (by kernel_rfl) (by kernel_rfl) (fun _ _ _ h => h) (Or.inl ⟨by rfl, ?_⟩) (by assumption) ?_
      rotate_left
      · intro w2 hSw
        (try dsimp only at hSw)
        (try (obtain ⟨s0, s1, s2, s3⟩ := hSw))
        go_simp
        (try (with_reducible rfl))
      (try simp only [Act.put, lga, lgz, lgs, lsa, lsz, lss])
      refine wpAnyH_take (i := 7) (v := ?_) rfl (by kernel_rfl) (by kernel_rfl) (by kernel_rfl) (fun _ _ _ h => h) (Or.inl ⟨by rfl, ?_⟩) (by assumption) ?_
      rotate_left
      · intro w2 hSw
        (try dsimp only at hSw)
        (try (obtain ⟨s0, s1, s2, s3⟩ := hSw))
        go_simp
        (try (with_reducible rfl))
      (try simp only [Act.put, lga, lgz, lgs, lsa, lsz, lss])
      refine wpAnyH_ready (rs := [8]) (by decide +kernel) (by simp) ?_
      refine AllReadyH.cons rfl (fun K hK => ?_) (AllReadyH.nil)
      (try simp only [lga, lgz, lgs])
      (go_simp)
      refine hK.out _ _ ?_ (fun hHeld => ?_)
      · exact s4_of (show Row _ w1.heap.size #[.int .i64 x, .int .i64 y] from (by exact ra)) (show Row _ w.heap.size #[.int .i64 bx, .int .i64 bz] from (by exact ra))
      clear hK K
      (try simp only [Act.put, lga, lgz, lgs, lsa, lsz, lss])
      refine wpAnyH_ready (rs := [9]) (by decide +kernel) (by simp) ?_
      refine AllReadyH.cons rfl (fun K hK => ?_) (AllReadyH.nil)
      (try simp only [lga, lgz, lgs])
      (go_simp)
      refine hK.out _ _ ?_ (fun hHeld => ?_)
      · exact s4_of (show Row _ w1.heap.size #[.int .i64 x, .int .i64 y] from (by exact ra)) (show Row _ w.heap.size #[.int .i64 bx, .int .i64 bz] from (by exact ra))
      clear hK K
      (try simp only [Act.put, lga, lgz, lgs, lsa, lsz, lss])
      refine wpAnyH_take (i := 10) (v := ?_) rfl (by kernel_rfl) (by kernel_rfl) (by kernel_rfl) (fun _ _ _ h => h) (Or.inl ⟨by rfl, ?_⟩) (by assumption) ?_
      rotate_left
      · intro w2 hSw
        (try dsimp only at hSw)
        (try (obtain ⟨s0, s1, s2, s3⟩ := hSw))
        go_simp
        (try (with_reducible rfl))
      (try simp only [Act.put, lga, lgz, lgs, lsa, lsz, lss])
      refine wpAnyH_done (by kernel_rfl) ?_ _
      (try dsimp only)
      generalize hW : World.alloc w3 _ = wR
      have R7 : Row wR (w3.heap.size) #[.int .i64 tx, .int .i64 tz] := by rw [← hW]; exact Row.made _ _ _
      have uR : Up w wR := by rw [← hW]; exact (show Chg [] w _ from by (repeat' (first | (with_reducible first | exact Chg.refl _ _ | assumption | refine Chg.alloc ?_ _ | refine Chg.drew ?_ | refine Chg.drewN ?_ _ | refine Chg.setCell ?_ ?_ _ | refine Chg.upc ?_ (by assumption) | refine Chg.call ?_ (by assumption) ?_) | (refine Or.inl ?_; (simp; done)) | (simp; done) | (simp; omega) | omega))).up
      have zR := uR.size
      have lR7 := R7.lt; have cR7_0 := R7.cell 0 rfl; have fR7_0 := R7.free 0; have cR7_1 := R7.cell 1 rfl; have fR7_1 := R7.free 1
      clear hW hHeld
      go_wp2
      go_ret
      exact ⟨rfl, uR⟩
    · skip
      (try simp only [lga, lgz, lgs])
      (go_simp)
      refine hK.out _ _ ?_ (fun hHeld => ?_)
      · exact s4_of (show Row _ w1.heap.size #[.int .i64 x, .int .i64 y] from (by exact ra)) (show Row _ w.heap.size #[.int .i64 bx, .int .i64 bz] from (by exact ra))
      clear hK K
      (try simp only [Act.put, lga, lgz, lgs, lsa, lsz, lss])
      refine wpAnyH_ready (rs := [4]) (by decide +kernel) (by simp) ?_
      refine AllReadyH.cons rfl (fun K hK => ?_) (AllReadyH.nil)
      (try simp only [lga, lgz, lgs])
      (go_simp; go_at_call 25; (with_reducible refine (moved_calls C 65536 0 F FM _ dk x y bx bz _).mono ?_); rw [HM.out]; rintro E w3 ⟨rfl, hu3⟩; have z3 := hu3.size; (try simp at z3); have R5_w3 : Row w3 w1.heap.size #[.int .i64 x, .int .i64 y] := Row.up (show Row _ w1.heap.size #[.int .i64 x, .int .i64 y] from (by exact ra)) hu3; have R3_w3 : Row w3 w.heap.size #[.int .i64 bx, .int .i64 bz] := Row.up (show Row _ w.heap.size #[.int .i64 bx, .int .i64 bz] from (by exact ra)) hu3; have R7_w3 : Row w3 (w2.heap.size) #[.int .i64 0, .int .i64 0] := Row.up (show Row _ (w2.heap.size) #[.int .i64 0, .int .i64 0] from (by exact ra)) hu3; have lR7_w3 := R7_w3.lt; have cR7_w3_0 := R7_w3.cell 0 rfl; have fR7_w3_0 := R7_w3.free 0; have cR7_w3_1 := R7_w3.cell 1 rfl; have fR7_w3_1 := R7_w3.free 1; have u3 : Up w w3 := (show Chg [] w w3 by (repeat' (first | (with_reducible first | exact Chg.refl _ _ | assumption | refine Chg.alloc ?_ _ | refine Chg.drew ?_ | refine Chg.drewN ?_ _ | refine Chg.setCell ?_ ?_ _ | refine Chg.upc ?_ (by assumption) | refine Chg.call ?_ (by assumption) ?_) | (refine Or.inl ?_; (simp; done)) | (simp; done) | (simp; omega) | omega))).up; (try dsimp only))
      refine hK.out _ _ ?_ (fun hHeld => ?_)
      · exact s4_of R5_w3 R3_w3
      clear hK K
      (try simp only [Act.put, lga, lgz, lgs, lsa, lsz, lss])
      refine wpAnyH_take (i := 5) (v := ?_) rfl (by kernel_rfl) (by kernel_rfl) (by kernel_rfl) (fun _ _ _ h => h) (Or.inl ⟨by rfl, ?_⟩) (by assumption) ?_
      rotate_left
      · intro w2 hSw
        (try dsimp only at hSw)
        (try (obtain ⟨s0, s1, s2, s3⟩ := hSw))
        go_simp
        (try (with_reducible rfl))
      (try simp only [Act.put, lga, lgz, lgs, lsa, lsz, lss])
      refine wpAnyH_take (i := 6) (v := ?_) rfl (by kernel_rfl) (by kernel_rfl) (by kernel_rfl) (fun _ _ _ h => h) (Or.inl ⟨by rfl, ?_⟩) (by assumption) ?_
      rotate_left
      · intro w2 hSw
        (try dsimp only at hSw)
        (try (obtain ⟨s0, s1, s2, s3⟩ := hSw))
        go_simp
        (try (with_reducible rfl))
      (try simp only [Act.put, lga, lgz, lgs, lsa, lsz, lss])
      refine wpAnyH_take (i := 7) (v := ?_) rfl (by kernel_rfl) (by kernel_rfl) (by kernel_rfl) (fun _ _ _ h => h) (Or.inl ⟨by rfl, ?_⟩) (by assumption) ?_
      rotate_left
      · intro w2 hSw
        (try dsimp only at hSw)
        (try (obtain ⟨s0, s1, s2, s3⟩ := hSw))
        go_simp
        (try (with_reducible rfl))
      (try simp only [Act.put, lga, lgz, lgs, lsa, lsz, lss])
      refine wpAnyH_ready (rs := [9]) (by decide +kernel) (by simp) ?_
      refine AllReadyH.cons rfl (fun K hK => ?_) (AllReadyH.nil)
      (try simp only [lga, lgz, lgs])
      (go_simp)
      refine hK.out _ _ ?_ (fun hHeld => ?_)
      · exact s4_of (show Row _ w1.heap.size #[.int .i64 x, .int .i64 y] from (by exact ra)) (show Row _ w.heap.size #[.int .i64 bx, .int .i64 bz] from (by exact ra))
      clear hK K
      (try simp only [Act.put, lga, lgz, lgs, lsa, lsz, lss])
      refine wpAnyH_take (i := 10) (v := ?_) rfl (by kernel_rfl) (by kernel_rfl) (by kernel_rfl) (fun _ _ _ h => h) (Or.inl ⟨by rfl, ?_⟩) (by assumption) ?_
      rotate_left
      · intro w2 hSw
        (try dsimp only at hSw)
        (try (obtain ⟨s0, s1, s2, s3⟩ := hSw))
        go_simp
        (try (with_reducible rfl))
      (try simp only [Act.put, lga, lgz, lgs, lsa, lsz, lss])
      refine wpAnyH_done (by kernel_rfl) ?_ _
      (try dsimp only)
      generalize hW : World.setCell (World.setCell _ _ _) _ _ = wR
      have R7 : Row wR (w2.heap.size) #[.int .i64 tx, .int .i64 tz] := by rw [← hW]; exact (by exact ro)
      have uR : Up w wR := by rw [← hW]; exact (show Chg [] w _ from by (repeat' (first | (with_reducible first | exact Chg.refl _ _ | assumption | refine Chg.alloc ?_ _ | refine Chg.drew ?_ | refine Chg.drewN ?_ _ | refine Chg.setCell ?_ ?_ _ | refine Chg.upc ?_ (by assumption) | refine Chg.call ?_ (by assumption) ?_) | (refine Or.inl ?_; (simp; done)) | (simp; done) | (simp; omega) | omega))).up
      have zR := uR.size
      have lR7 := R7.lt; have cR7_0 := R7.cell 0 rfl; have fR7_0 := R7.free 0; have cR7_1 := R7.cell 1 rfl; have fR7_1 := R7.free 1
      clear hW hHeld
      go_wp2
      go_ret
      exact ⟨rfl, uR⟩
  · skip
    (try simp only [lga, lgz, lgs])
    (go_simp)
    refine hK.out _ _ ?_ (fun hHeld => ?_)
    · exact s4_of (show Row _ w1.heap.size #[.int .i64 x, .int .i64 y] from (by exact ra)) (show Row _ w.heap.size #[.int .i64 bx, .int .i64 bz] from (by exact ra))
    clear hK K
    (try simp only [Act.put, lga, lgz, lgs, lsa, lsz, lss])
    refine wpAnyH_ready (rs := [1]) (by decide +kernel) (by simp) ?_
    refine AllReadyH.cons rfl (fun K hK => ?_) (AllReadyH.nil)
    (try simp only [lga, lgz, lgs])
    (go_simp; go_at_call 44; (with_reducible refine (now_callsL g C 65536 0 F FM dk p 2 n _ (HG.out.up (show Chg [] w _ from (by (repeat' (first | (with_reducible first | exact Chg.refl _ _ | assumption | refine Chg.alloc ?_ _ | refine Chg.drew ?_ | refine Chg.drewN ?_ _ | refine Chg.setCell ?_ ?_ _ | refine Chg.upc ?_ (by assumption) | refine Chg.call ?_ (by assumption) ?_) | (refine Or.inl ?_; (simp; done)) | (simp; done) | (simp; omega) | omega)))).up)).mono ?_); rintro E w2 ⟨⟨gc, rfl⟩, hu2⟩; have z2 := hu2.size; (try simp at z2); have R5_w2 : Row w2 w1.heap.size #[.int .i64 x, .int .i64 y] := Row.up (show Row _ w1.heap.size #[.int .i64 x, .int .i64 y] from (by exact ra)) hu2; have R3_w2 : Row w2 w.heap.size #[.int .i64 bx, .int .i64 bz] := Row.up (show Row _ w.heap.size #[.int .i64 bx, .int .i64 bz] from (by exact ra)) hu2; have R7_w2 : Row w2 (w1.heap.size + 1) #[.int .i64 0, .int .i64 0] := Row.up (show Row _ (w1.heap.size + 1) #[.int .i64 0, .int .i64 0] from (by exact ra)) hu2; have lR7_w2 := R7_w2.lt; have cR7_w2_0 := R7_w2.cell 0 rfl; have fR7_w2_0 := R7_w2.free 0; have cR7_w2_1 := R7_w2.cell 1 rfl; have fR7_w2_1 := R7_w2.free 1; (try dsimp only))
    refine hK.out _ _ ?_ (fun hHeld => ?_)
    · exact s4_of R5_w2 R3_w2
    clear hK K
    (try simp only [Act.put, lga, lgz, lgs, lsa, lsz, lss])
    refine wpAnyH_ready (rs := [4]) (by decide +kernel) (by simp) ?_
    refine AllReadyH.cons rfl (fun K hK => ?_) (AllReadyH.nil)
    (try simp only [lga, lgz, lgs])
    (go_simp; go_at_call 25; (with_reducible refine (moved_calls C 65536 0 F FM _ dk x y bx bz _).mono ?_); rw [HM.out]; rintro E w3 ⟨rfl, hu3⟩; have z3 := hu3.size; (try simp at z3); have R5_w3 : Row w3 w1.heap.size #[.int .i64 x, .int .i64 y] := Row.up (show Row _ w1.heap.size #[.int .i64 x, .int .i64 y] from (by exact ra)) hu3; have R3_w3 : Row w3 w.heap.size #[.int .i64 bx, .int .i64 bz] := Row.up (show Row _ w.heap.size #[.int .i64 bx, .int .i64 bz] from (by exact ra)) hu3; have R7_w3 : Row w3 (w1.heap.size + 1) #[.int .i64 0, .int .i64 0] := Row.up (show Row _ (w1.heap.size + 1) #[.int .i64 0, .int .i64 0] from (by exact ra)) hu3; have lR7_w3 := R7_w3.lt; have cR7_w3_0 := R7_w3.cell 0 rfl; have fR7_w3_0 := R7_w3.free 0; have cR7_w3_1 := R7_w3.cell 1 rfl; have fR7_w3_1 := R7_w3.free 1; have u3 : Up w w3 := (show Chg [] w w3 by (repeat' (first | (with_reducible first | exact Chg.refl _ _ | assumption | refine Chg.alloc ?_ _ | refine Chg.drew ?_ | refine Chg.drewN ?_ _ | refine Chg.setCell ?_ ?_ _ | refine Chg.upc ?_ (by assumption) | refine Chg.call ?_ (by assumption) ?_) | (refine Or.inl ?_; (simp; done)) | (simp; done) | (simp; omega) | omega))).up; (try dsimp only))
    refine hK.out _ _ ?_ (fun hHeld => ?_)
    · exact s4_of R5_w3 R3_w3
    clear hK K
    (try simp only [Act.put, lga, lgz, lgs, lsa, lsz, lss])
    refine wpAnyH_take (i := 5) (v := ?_) rfl (by kernel_rfl) (by kernel_rfl) (by kernel_rfl) (fun _ _ _ h => h) (Or.inl ⟨by rfl, ?_⟩) (by assumption) ?_
    rotate_left
    · intro w2 hSw
      (try dsimp only at hSw)
      (try (obtain ⟨s0, s1, s2, s3⟩ := hSw))
      go_simp
      (try (with_reducible rfl))
    (try simp only [Act.put, lga, lgz, lgs, lsa, lsz, lss])
    refine wpAnyH_take (i := 6) (v := ?_) rfl (by kernel_rfl) (by kernel_rfl) (by kernel_rfl) (fun _ _ _ h => h) (Or.inl ⟨by rfl, ?_⟩) (by assumption) ?_
    rotate_left
    · intro w2 hSw
      (try dsimp only at hSw)
      (try (obtain ⟨s0, s1, s2, s3⟩ := hSw))
      go_simp
      (try (with_reducible rfl))
    (try simp only [Act.put, lga, lgz, lgs, lsa, lsz, lss])
    refine wpAnyH_take (i := 7) (v := ?_) rfl (by kernel_rfl) (by kernel_rfl) (by kernel_rfl) (fun _ _ _ h => h) (Or.inl ⟨by rfl, ?_⟩) (by assumption) ?_
    rotate_left
    · intro w2 hSw
      (try dsimp only at hSw)
      (try (obtain ⟨s0, s1, s2, s3⟩ := hSw))
      go_simp
      (try (with_reducible rfl))
    (try simp only [Act.put, lga, lgz, lgs, lsa, lsz, lss])
    refine wpAnyH_ready (rs := [9]) (by decide +kernel) (by simp) ?_
    refine AllReadyH.cons rfl (fun K hK => ?_) (AllReadyH.nil)
    (try simp only [lga, lgz, lgs])
    (go_simp)
    refine hK.out _ _ ?_ (fun hHeld => ?_)
    · exact s4_of (show Row _ w1.heap.size #[.int .i64 x, .int .i64 y] from (by exact ra)) (show Row _ w.heap.size #[.int .i64 bx, .int .i64 bz] from (by exact ra))
    clear hK K
    (try simp only [Act.put, lga, lgz, lgs, lsa, lsz, lss])
    refine wpAnyH_take (i := 10) (v := ?_) rfl (by kernel_rfl) (by kernel_rfl) (by kernel_rfl) (fun _ _ _ h => h) (Or.inl ⟨by rfl, ?_⟩) (by assumption) ?_
    rotate_left
    · intro w2 hSw
      (try dsimp only at hSw)
      (try (obtain ⟨s0, s1, s2, s3⟩ := hSw))
      go_simp
      (try (with_reducible rfl))
    (try simp only [Act.put, lga, lgz, lgs, lsa, lsz, lss])
    refine wpAnyH_done (by kernel_rfl) ?_ _
    (try dsimp only)
    generalize hW : World.setCell (World.setCell _ _ _) _ _ = wR
    have R7 : Row wR (w1.heap.size + 1) #[.int .i64 tx, .int .i64 tz] := by rw [← hW]; exact (by exact ro)
    have uR : Up w wR := by rw [← hW]; exact (show Chg [] w _ from by (repeat' (first | (with_reducible first | exact Chg.refl _ _ | assumption | refine Chg.alloc ?_ _ | refine Chg.drew ?_ | refine Chg.drewN ?_ _ | refine Chg.setCell ?_ ?_ _ | refine Chg.upc ?_ (by assumption) | refine Chg.call ?_ (by assumption) ?_) | (refine Or.inl ?_; (simp; done)) | (simp; done) | (simp; omega) | omega))).up
    have zR := uR.size
    have lR7 := R7.lt; have cR7_0 := R7.cell 0 rfl; have fR7_0 := R7.free 0; have cR7_1 := R7.cell 1 rfl; have fR7_1 := R7.free 1
    clear hW hHeld
    go_wp2
    go_ret
    exact ⟨rfl, uR⟩

set_option maxRecDepth 8000 in
set_option maxHeartbeats 4000000 in
theorem on_good (g p : Nat) (C : M6) (F : Int) (FM : M6) (dk : Bool) (n : Int) (pv : Value) (T : St) (x y bx bz tx tz : Int) (w : World) (hg : Row w g (gsC C 65536 (.slice none 0 0) 0 F FM dk p 2 n)) (hp : Path.PathIs w p pv T) (hcu : Path.St.cur T = ((x, y), 0)) (hM : movedR C x y bx bz = ((tx, tz), 0)) (hLK : lastK T.l = 1) (hTM : (T.move (tx, tz)).2 = 0) :
    Calls Tryz.prog 38 #[.pointer (some ⟨g, 0, none⟩), .agg #[.int .i64 bx, .int .i64 bz]] w fun E w' => E = .returned (.int .i64 0) ∧ Path.Left w p pv (T.move (tx, tz)).1 w' := by
  have HG := Lib.hid hg
  have HP := Lib.hid hp
  have HCU := Lib.hid hcu
  have HLP := Lib.hid hp.row.lt
  have HLV := Lib.hid (pv_lt hp)
  have HM := Lib.hid hM
  have HLK := Lib.hid hLK
  have HTM := Lib.hid hTM
  clear hM hLK hTM
  clear hg hp hcu
  go_enter Tryz.func38, Tryz.ntmps38
  go_wp2_with (first
    | (go_at_call 20; ((with_reducible refine (path_calls g p _ ((HG.out.up (show Chg [] w _ from (by (repeat' (first | (with_reducible first | exact Chg.refl _ _ | assumption | refine Chg.alloc ?_ _ | refine Chg.drew ?_ | refine Chg.drewN ?_ _ | refine Chg.setCell ?_ ?_ _ | refine Chg.upc ?_ (by assumption) | refine Chg.call ?_ (by assumption) ?_) | (refine Or.inl ?_; (simp; done)) | (simp; done) | (simp; omega) | omega)))).up).cell 26 rfl)).mono ?_); rintro E w90 ⟨rfl, rfl⟩))
    | (go_at_call 52; ((with_reducible refine (Path.current_calls p pv T _ (HP.out.up (show Chg [] w _ from (by (repeat' (first | (with_reducible first | exact Chg.refl _ _ | assumption | refine Chg.alloc ?_ _ | refine Chg.drew ?_ | refine Chg.drewN ?_ _ | refine Chg.setCell ?_ ?_ _ | refine Chg.upc ?_ (by assumption) | refine Chg.call ?_ (by assumption) ?_) | (refine Or.inl ?_; (simp; done)) | (simp; done) | (simp; omega) | omega)))).up)).mono ?_); rw [HCU.out]; rintro E w1 ⟨rfl, hu1⟩; have z1 := hu1.size; (try simp at z1); have R3_w1 : Row w1 w.heap.size #[.int .i64 bx, .int .i64 bz] := Row.up (show Row _ w.heap.size #[.int .i64 bx, .int .i64 bz] from (by exact ra)) hu1)))
  refine wp_region_held_drew (S := fun w' => w'.cell? ⟨w1.heap.size, 0, none⟩ = some (.int .i64 x) ∧ w'.cell? ⟨w1.heap.size, 1, none⟩ = some (.int .i64 y) ∧ w'.cell? ⟨w.heap.size, 0, none⟩ = some (.int .i64 bx) ∧ w'.cell? ⟨w.heap.size, 1, none⟩ = some (.int .i64 bz)) (by kernel_rfl) ?_ (fun hHeld => ?_)
  · exact s4_of (show Row _ w1.heap.size #[.int .i64 x, .int .i64 y] from (by exact ra)) (show Row _ w.heap.size #[.int .i64 bx, .int .i64 bz] from (by exact ra))
  refine wpAnyH_take (i := 0) (v := ?_) rfl (by kernel_rfl) (by kernel_rfl) (by kernel_rfl) (fun _ _ _ h => h) (Or.inl ⟨by rfl, ?_⟩) (by assumption) ?_
  rotate_left
  · intro w2 hSw
    (try dsimp only at hSw)
    (try (obtain ⟨s0, s1, s2, s3⟩ := hSw))
    go_simp
    (try (with_reducible rfl))
  (try simp only [Act.put, lga, lgz, lgs, lsa, lsz, lss])
  refine wpAnyH_take (i := 2) (v := ?_) rfl (by kernel_rfl) (by kernel_rfl) (by kernel_rfl) (fun _ _ _ h => h) (Or.inl ⟨by rfl, ?_⟩) (by assumption) ?_
  rotate_left
  · intro w2 hSw
    (try dsimp only at hSw)
    (try (obtain ⟨s0, s1, s2, s3⟩ := hSw))
    go_simp
    (try (with_reducible rfl))
  (try simp only [Act.put, lga, lgz, lgs, lsa, lsz, lss])
  refine wpAnyH_take (i := 3) (v := ?_) rfl (by kernel_rfl) (by kernel_rfl) (by kernel_rfl) (fun _ _ _ h => h) (Or.inl ⟨by rfl, ?_⟩) (by assumption) ?_
  rotate_left
  · intro w2 hSw
    (try dsimp only at hSw)
    (try (obtain ⟨s0, s1, s2, s3⟩ := hSw))
    go_simp
    (try (with_reducible rfl))
  (try simp only [Act.put, lga, lgz, lgs, lsa, lsz, lss])
  refine wpAnyH_ready (rs := [1, 8]) (by decide +kernel) (by simp) ?_
  refine AllReadyH.cons rfl (fun K hK => ?_) (AllReadyH.cons rfl (fun K hK => ?_) (AllReadyH.nil))
  · skip
    (try simp only [lga, lgz, lgs])
    (go_simp; go_at_call 44; (with_reducible refine (now_callsL g C 65536 0 F FM dk p 2 n _ (HG.out.up (show Chg [] w _ from (by (repeat' (first | (with_reducible first | exact Chg.refl _ _ | assumption | refine Chg.alloc ?_ _ | refine Chg.drew ?_ | refine Chg.drewN ?_ _ | refine Chg.setCell ?_ ?_ _ | refine Chg.upc ?_ (by assumption) | refine Chg.call ?_ (by assumption) ?_) | (refine Or.inl ?_; (simp; done)) | (simp; done) | (simp; omega) | omega)))).up)).mono ?_); rintro E w2 ⟨⟨gc, rfl⟩, hu2⟩; have z2 := hu2.size; (try simp at z2); have R5_w2 : Row w2 w1.heap.size #[.int .i64 x, .int .i64 y] := Row.up (show Row _ w1.heap.size #[.int .i64 x, .int .i64 y] from (by exact ra)) hu2; have R3_w2 : Row w2 w.heap.size #[.int .i64 bx, .int .i64 bz] := Row.up (show Row _ w.heap.size #[.int .i64 bx, .int .i64 bz] from (by exact ra)) hu2; (try dsimp only))
    refine hK.out _ _ ?_ (fun hHeld => ?_)
    · exact s4_of R5_w2 R3_w2
    clear hK K
    (try simp only [Act.put, lga, lgz, lgs, lsa, lsz, lss])
    refine wpAnyH_ready (rs := [4, 8]) (by decide +kernel) (by simp) ?_
    refine AllReadyH.cons rfl (fun K hK => ?_) (AllReadyH.cons rfl (fun K hK => ?_) (AllReadyH.nil))
    · skip
      (try simp only [lga, lgz, lgs])
      (go_simp; go_at_call 25; (with_reducible refine (moved_calls C 65536 0 F FM _ dk x y bx bz _).mono ?_); rw [HM.out]; rintro E w3 ⟨rfl, hu3⟩; have z3 := hu3.size; (try simp at z3); have R5_w3 : Row w3 w1.heap.size #[.int .i64 x, .int .i64 y] := Row.up (show Row _ w1.heap.size #[.int .i64 x, .int .i64 y] from (by exact ra)) hu3; have R3_w3 : Row w3 w.heap.size #[.int .i64 bx, .int .i64 bz] := Row.up (show Row _ w.heap.size #[.int .i64 bx, .int .i64 bz] from (by exact ra)) hu3; have u3 : Up w w3 := (show Chg [] w w3 by (repeat' (first | (with_reducible first | exact Chg.refl _ _ | assumption | refine Chg.alloc ?_ _ | refine Chg.drew ?_ | refine Chg.drewN ?_ _ | refine Chg.setCell ?_ ?_ _ | refine Chg.upc ?_ (by assumption) | refine Chg.call ?_ (by assumption) ?_) | (refine Or.inl ?_; (simp; done)) | (simp; done) | (simp; omega) | omega))).up; (try dsimp only))
      refine hK.out _ _ ?_ (fun hHeld => ?_)
      · exact s4_of R5_w3 R3_w3
      clear hK K
      (try simp only [Act.put, lga, lgz, lgs, lsa, lsz, lss])
      refine wpAnyH_take (i := 5) (v := ?_) rfl (by kernel_rfl) (by kernel_rfl) (by kernel_rfl) (fun _ _ _ h => h) (Or.inl ⟨by rfl, ?_⟩) (by assumption) ?_
      rotate_left
      · intro w2 hSw
        (try dsimp only at hSw)
        (try (obtain ⟨s0, s1, s2, s3⟩ := hSw))
        go_simp
        (try (with_reducible rfl))
      (try simp only [Act.put, lga, lgz, lgs, lsa, lsz, lss])
      refine wpAnyH_take (i := 6) (v := ?_) rfl (by kernel_rfl) (by kernel_rfl) (by kernel_rfl) (fun _ _ _ h => h) (Or.inl ⟨by rfl, ?_⟩) (by assumption) ?_
      rotate_left
      · intro w2 hSw
        (try dsimp only at hSw)
        (try (obtain ⟨s0, s1, s2, s3⟩ := hSw))
        go_simp
        (try (with_reducible rfl))
      (try simp only [Act.put, lga, lgz, lgs, lsa, lsz, lss])
      refine wpAnyH_take (i := 7) (v := ?_) rfl (by kernel_rfl) (by kernel_rfl) (by kernel_rfl) (fun _ _ _ h => h) (Or.inl ⟨by rfl, ?_⟩) (by assumption) ?_
      rotate_left
      · intro w2 hSw
        (try dsimp only at hSw)
        (try (obtain ⟨s0, s1, s2, s3⟩ := hSw))
        go_simp
        (try (with_reducible rfl))
      (try simp only [Act.put, lga, lgz, lgs, lsa, lsz, lss])
      refine wpAnyH_ready (rs := [8]) (by decide +kernel) (by simp) ?_
      refine AllReadyH.cons rfl (fun K hK => ?_) (AllReadyH.nil)
      (try simp only [lga, lgz, lgs])
      (go_simp)
      refine hK.out _ _ ?_ (fun hHeld => ?_)
      · exact s4_of (show Row _ w1.heap.size #[.int .i64 x, .int .i64 y] from (by exact ra)) (show Row _ w.heap.size #[.int .i64 bx, .int .i64 bz] from (by exact ra))
      clear hK K
      (try simp only [Act.put, lga, lgz, lgs, lsa, lsz, lss])
      refine wpAnyH_ready (rs := [9]) (by decide +kernel) (by simp) ?_
      refine AllReadyH.cons rfl (fun K hK => ?_) (AllReadyH.nil)
      (try simp only [lga, lgz, lgs])
      (go_simp)
      refine hK.out _ _ ?_ (fun hHeld => ?_)
      · exact s4_of (show Row _ w1.heap.size #[.int .i64 x, .int .i64 y] from (by exact ra)) (show Row _ w.heap.size #[.int .i64 bx, .int .i64 bz] from (by exact ra))
      clear hK K
      (try simp only [Act.put, lga, lgz, lgs, lsa, lsz, lss])
      refine wpAnyH_take (i := 10) (v := ?_) rfl (by kernel_rfl) (by kernel_rfl) (by kernel_rfl) (fun _ _ _ h => h) (Or.inl ⟨by rfl, ?_⟩) (by assumption) ?_
      rotate_left
      · intro w2 hSw
        (try dsimp only at hSw)
        (try (obtain ⟨s0, s1, s2, s3⟩ := hSw))
        go_simp
        (try (with_reducible rfl))
      (try simp only [Act.put, lga, lgz, lgs, lsa, lsz, lss])
      refine wpAnyH_done (by kernel_rfl) ?_ _
      (try dsimp only)
      generalize hW : World.alloc w3 _ = wR
      have R7 : Row wR (w3.heap.size) #[.int .i64 tx, .int .i64 tz] := by rw [← hW]; exact Row.made _ _ _
      have uR : Up w wR := by rw [← hW]; exact (show Chg [] w _ from by (repeat' (first | (with_reducible first | exact Chg.refl _ _ | assumption | refine Chg.alloc ?_ _ | refine Chg.drew ?_ | refine Chg.drewN ?_ _ | refine Chg.setCell ?_ ?_ _ | refine Chg.upc ?_ (by assumption) | refine Chg.call ?_ (by assumption) ?_) | (refine Or.inl ?_; (simp; done)) | (simp; done) | (simp; omega) | omega))).up
      have zR := uR.size
      have lR7 := R7.lt; have cR7_0 := R7.cell 0 rfl; have fR7_0 := R7.free 0; have cR7_1 := R7.cell 1 rfl; have fR7_1 := R7.free 1
      clear hW hHeld
      go_wp2
      refine wp_region_held_drew (S := fun w' => Row w' (w3.heap.size) #[.int .i64 tx, .int .i64 tz]) (by kernel_rfl) ?_ (fun hHeld => ?_)
      · exact Row.drew R7
      refine wpAnyH_take (i := 0) (v := ?_) rfl (by kernel_rfl) (by kernel_rfl) (by kernel_rfl) (fun _ _ _ h => h) (Or.inl ⟨by rfl, ?_⟩) (by assumption) ?_
      rotate_left
      · intro w2 hSw
        (try dsimp only at hSw)
        (try (obtain ⟨hs1, hs2, hs3⟩ := hSw))
        go_simp
        (try (with_reducible rfl))
      (try simp only [Act.put, lga, lgz, lgs, lsa, lsz, lss])
      refine wpAnyH_take (i := 2) rfl (by kernel_rfl) (by kernel_rfl) (by kernel_rfl) (fun _ _ _ h => h) (yieldsIf_load_mid (by rfl) 24 (.tmp 7) rfl (w3.heap.size) 0 rfl #[.int .i64 tx, .int .i64 tz].toList _ (fun _ h => rng0 h) Tryz.underlying24 rfl (by exact infoP)) (by assumption) ?_
      (try simp only [Act.put, lga, lgz, lgs, lsa, lsz, lss])
      refine wpAnyH_ready (rs := [1]) (by decide +kernel) (by simp) ?_
      refine AllReadyH.cons rfl (fun K hK => ?_) (AllReadyH.nil)
      (try simp only [lga, lgz, lgs])
      (go_simp; go_at_call 20; (with_reducible refine (path_calls g p _ (Row.cell (show Row _ g (gsC C 65536 (.slice none 0 0) 0 F FM dk p 2 n) from Row.drew (HG.out.up uR)) 26 rfl)).mono ?_); rintro E wx ⟨rfl, rfl⟩; (try dsimp only))
      refine hK.out _ _ ?_ (fun hHeld => ?_)
      · exact hHeld
      clear hK K
      (try simp only [Act.put, lga, lgz, lgs, lsa, lsz, lss])
      refine wpAnyH_ready (rs := [3]) (by decide +kernel) (by simp) ?_
      refine AllReadyH.cons rfl (fun K hK => ?_) (AllReadyH.nil)
      (try simp only [lga, lgz, lgs])
      (go_simp; go_at_call 21; (with_reducible refine (Path.move_onto p pv T tx tz _ (Path.PathIs.up (w := wR) (HP.out.up uR) (Up.drew (Up.refl _))) HLK.out).mono ?_); rw [HTM.out]; rintro E w7 ⟨rfl, hl7⟩; have HL7 := Lib.hid (Path.Left.of_up (show Up w _ from Up.drew uR) hl7); (try dsimp only))
      refine hK.out _ _ ?_ (fun hHeld => ?_)
      · exact (let ⟨_, _, hc7, _⟩ := hl7; Row.chg hHeld hc7 (fun hk => by rcases List.mem_cons.1 hk with h1 | h1; (have := HLP.out; omega); (have := HLV.out _ h1; omega)))
      clear hK K
      (try simp only [Act.put, lga, lgz, lgs, lsa, lsz, lss])
      refine wpAnyH_take (i := 4) (v := ?_) rfl (by kernel_rfl) (by kernel_rfl) (by kernel_rfl) (fun _ _ _ h => h) (Or.inl ⟨by rfl, ?_⟩) (by assumption) ?_
      rotate_left
      · intro w2 hSw
        (try dsimp only at hSw)
        (try (obtain ⟨hs1, hs2, hs3⟩ := hSw))
        go_simp
        (try (with_reducible rfl))
      (try simp only [Act.put, lga, lgz, lgs, lsa, lsz, lss])
      refine wpAnyH_done (by kernel_rfl) ?_ _
      clear hHeld
      go_wp2
      go_ret
      exact ⟨rfl, HL7.out⟩
    · skip
      (try simp only [lga, lgz, lgs])
      (go_simp)
      refine hK.out _ _ ?_ (fun hHeld => ?_)
      · exact s4_of (show Row _ w1.heap.size #[.int .i64 x, .int .i64 y] from (by exact ra)) (show Row _ w.heap.size #[.int .i64 bx, .int .i64 bz] from (by exact ra))
      clear hK K
      (try simp only [Act.put, lga, lgz, lgs, lsa, lsz, lss])
      refine wpAnyH_ready (rs := [4]) (by decide +kernel) (by simp) ?_
      refine AllReadyH.cons rfl (fun K hK => ?_) (AllReadyH.nil)
      (try simp only [lga, lgz, lgs])
      (go_simp; go_at_call 25; (with_reducible refine (moved_calls C 65536 0 F FM _ dk x y bx bz _).mono ?_); rw [HM.out]; rintro E w3 ⟨rfl, hu3⟩; have z3 := hu3.size; (try simp at z3); have R5_w3 : Row w3 w1.heap.size #[.int .i64 x, .int .i64 y] := Row.up (show Row _ w1.heap.size #[.int .i64 x, .int .i64 y] from (by exact ra)) hu3; have R3_w3 : Row w3 w.heap.size #[.int .i64 bx, .int .i64 bz] := Row.up (show Row _ w.heap.size #[.int .i64 bx, .int .i64 bz] from (by exact ra)) hu3; have R7_w3 : Row w3 (w2.heap.size) #[.int .i64 0, .int .i64 0] := Row.up (show Row _ (w2.heap.size) #[.int .i64 0, .int .i64 0] from (by exact ra)) hu3; have lR7_w3 := R7_w3.lt; have cR7_w3_0 := R7_w3.cell 0 rfl; have fR7_w3_0 := R7_w3.free 0; have cR7_w3_1 := R7_w3.cell 1 rfl; have fR7_w3_1 := R7_w3.free 1; have u3 : Up w w3 := (show Chg [] w w3 by (repeat' (first | (with_reducible first | exact Chg.refl _ _ | assumption | refine Chg.alloc ?_ _ | refine Chg.drew ?_ | refine Chg.drewN ?_ _ | refine Chg.setCell ?_ ?_ _ | refine Chg.upc ?_ (by assumption) | refine Chg.call ?_ (by assumption) ?_) | (refine Or.inl ?_; (simp; done)) | (simp; done) | (simp; omega) | omega))).up; (try dsimp only))
      refine hK.out _ _ ?_ (fun hHeld => ?_)
      · exact s4_of R5_w3 R3_w3
      clear hK K
      (try simp only [Act.put, lga, lgz, lgs, lsa, lsz, lss])
      refine wpAnyH_take (i := 5) (v := ?_) rfl (by kernel_rfl) (by kernel_rfl) (by kernel_rfl) (fun _ _ _ h => h) (Or.inl ⟨by rfl, ?_⟩) (by assumption) ?_
      rotate_left
      · intro w2 hSw
        (try dsimp only at hSw)
        (try (obtain ⟨s0, s1, s2, s3⟩ := hSw))
        go_simp
        (try (with_reducible rfl))
      (try simp only [Act.put, lga, lgz, lgs, lsa, lsz, lss])
      refine wpAnyH_take (i := 6) (v := ?_) rfl (by kernel_rfl) (by kernel_rfl) (by kernel_rfl) (fun _ _ _ h => h) (Or.inl ⟨by rfl, ?_⟩) (by assumption) ?_
      rotate_left
      · intro w2 hSw
        (try dsimp only at hSw)
        (try (obtain ⟨s0, s1, s2, s3⟩ := hSw))
        go_simp
        (try (with_reducible rfl))
      (try simp only [Act.put, lga, lgz, lgs, lsa, lsz, lss])
      refine wpAnyH_take (i := 7) (v := ?_) rfl (by kernel_rfl) (by kernel_rfl) (by kernel_rfl) (fun _ _ _ h => h) (Or.inl ⟨by rfl, ?_⟩) (by assumption) ?_
      rotate_left
      · intro w2 hSw
        (try dsimp only at hSw)
        (try (obtain ⟨s0, s1, s2, s3⟩ := hSw))
        go_simp
        (try (with_reducible rfl))
      (try simp only [Act.put, lga, lgz, lgs, lsa, lsz, lss])
      refine wpAnyH_ready (rs := [9]) (by decide +kernel) (by simp) ?_
      refine AllReadyH.cons rfl (fun K hK => ?_) (AllReadyH.nil)
      (try simp only [lga, lgz, lgs])
      (go_simp)
      refine hK.out _ _ ?_ (fun hHeld => ?_)
      · exact s4_of (show Row _ w1.heap.size #[.int .i64 x, .int .i64 y] from (by exact ra)) (show Row _ w.heap.size #[.int .i64 bx, .int .i64 bz] from (by exact ra))
      clear hK K
      (try simp only [Act.put, lga, lgz, lgs, lsa, lsz, lss])
      refine wpAnyH_take (i := 10) (v := ?_) rfl (by kernel_rfl) (by kernel_rfl) (by kernel_rfl) (fun _ _ _ h => h) (Or.inl ⟨by rfl, ?_⟩) (by assumption) ?_
      rotate_left
      · intro w2 hSw
        (try dsimp only at hSw)
        (try (obtain ⟨s0, s1, s2, s3⟩ := hSw))
        go_simp
        (try (with_reducible rfl))
      (try simp only [Act.put, lga, lgz, lgs, lsa, lsz, lss])
      refine wpAnyH_done (by kernel_rfl) ?_ _
      (try dsimp only)
      generalize hW : World.setCell (World.setCell _ _ _) _ _ = wR
      have R7 : Row wR (w2.heap.size) #[.int .i64 tx, .int .i64 tz] := by rw [← hW]; exact (by exact ro)
      have uR : Up w wR := by rw [← hW]; exact (show Chg [] w _ from by (repeat' (first | (with_reducible first | exact Chg.refl _ _ | assumption | refine Chg.alloc ?_ _ | refine Chg.drew ?_ | refine Chg.drewN ?_ _ | refine Chg.setCell ?_ ?_ _ | refine Chg.upc ?_ (by assumption) | refine Chg.call ?_ (by assumption) ?_) | (refine Or.inl ?_; (simp; done)) | (simp; done) | (simp; omega) | omega))).up
      have zR := uR.size
      have lR7 := R7.lt; have cR7_0 := R7.cell 0 rfl; have fR7_0 := R7.free 0; have cR7_1 := R7.cell 1 rfl; have fR7_1 := R7.free 1
      clear hW hHeld
      go_wp2
      refine wp_region_held_drew (S := fun w' => Row w' (w2.heap.size) #[.int .i64 tx, .int .i64 tz]) (by kernel_rfl) ?_ (fun hHeld => ?_)
      · exact Row.drew R7
      refine wpAnyH_take (i := 0) (v := ?_) rfl (by kernel_rfl) (by kernel_rfl) (by kernel_rfl) (fun _ _ _ h => h) (Or.inl ⟨by rfl, ?_⟩) (by assumption) ?_
      rotate_left
      · intro w2 hSw
        (try dsimp only at hSw)
        (try (obtain ⟨hs1, hs2, hs3⟩ := hSw))
        go_simp
        (try (with_reducible rfl))
      (try simp only [Act.put, lga, lgz, lgs, lsa, lsz, lss])
      refine wpAnyH_take (i := 2) rfl (by kernel_rfl) (by kernel_rfl) (by kernel_rfl) (fun _ _ _ h => h) (yieldsIf_load_mid (by rfl) 24 (.tmp 7) rfl (w2.heap.size) 0 rfl #[.int .i64 tx, .int .i64 tz].toList _ (fun _ h => rng0 h) Tryz.underlying24 rfl (by exact infoP)) (by assumption) ?_
      (try simp only [Act.put, lga, lgz, lgs, lsa, lsz, lss])
      refine wpAnyH_ready (rs := [1]) (by decide +kernel) (by simp) ?_
      refine AllReadyH.cons rfl (fun K hK => ?_) (AllReadyH.nil)
      (try simp only [lga, lgz, lgs])
      (go_simp; go_at_call 20; (with_reducible refine (path_calls g p _ (Row.cell (show Row _ g (gsC C 65536 (.slice none 0 0) 0 F FM dk p 2 n) from Row.drew (HG.out.up uR)) 26 rfl)).mono ?_); rintro E wx ⟨rfl, rfl⟩; (try dsimp only))
      refine hK.out _ _ ?_ (fun hHeld => ?_)
      · exact hHeld
      clear hK K
      (try simp only [Act.put, lga, lgz, lgs, lsa, lsz, lss])
      refine wpAnyH_ready (rs := [3]) (by decide +kernel) (by simp) ?_
      refine AllReadyH.cons rfl (fun K hK => ?_) (AllReadyH.nil)
      (try simp only [lga, lgz, lgs])
      (go_simp; go_at_call 21; (with_reducible refine (Path.move_onto p pv T tx tz _ (Path.PathIs.up (w := wR) (HP.out.up uR) (Up.drew (Up.refl _))) HLK.out).mono ?_); rw [HTM.out]; rintro E w7 ⟨rfl, hl7⟩; have HL7 := Lib.hid (Path.Left.of_up (show Up w _ from Up.drew uR) hl7); (try dsimp only))
      refine hK.out _ _ ?_ (fun hHeld => ?_)
      · exact (let ⟨_, _, hc7, _⟩ := hl7; Row.chg hHeld hc7 (fun hk => by rcases List.mem_cons.1 hk with h1 | h1; (have := HLP.out; omega); (have := HLV.out _ h1; omega)))
      clear hK K
      (try simp only [Act.put, lga, lgz, lgs, lsa, lsz, lss])
      refine wpAnyH_take (i := 4) (v := ?_) rfl (by kernel_rfl) (by kernel_rfl) (by kernel_rfl) (fun _ _ _ h => h) (Or.inl ⟨by rfl, ?_⟩) (by assumption) ?_
      rotate_left
      · intro w2 hSw
        (try dsimp only at hSw)
        (try (obtain ⟨hs1, hs2, hs3⟩ := hSw))
        go_simp
        (try (with_reducible rfl))
      (try simp only [Act.put, lga, lgz, lgs, lsa, lsz, lss])
      refine wpAnyH_done (by kernel_rfl) ?_ _
      clear hHeld
      go_wp2
      go_ret
      exact ⟨rfl, HL7.out⟩
  · skip
    (try simp only [lga, lgz, lgs])
    (go_simp)
    refine hK.out _ _ ?_ (fun hHeld => ?_)
    · exact s4_of (show Row _ w1.heap.size #[.int .i64 x, .int .i64 y] from (by exact ra)) (show Row _ w.heap.size #[.int .i64 bx, .int .i64 bz] from (by exact ra))
    clear hK K
    (try simp only [Act.put, lga, lgz, lgs, lsa, lsz, lss])
    refine wpAnyH_ready (rs := [1]) (by decide +kernel) (by simp) ?_
    refine AllReadyH.cons rfl (fun K hK => ?_) (AllReadyH.nil)
    (try simp only [lga, lgz, lgs])
    (go_simp; go_at_call 44; (with_reducible refine (now_callsL g C 65536 0 F FM dk p 2 n _ (HG.out.up (show Chg [] w _ from (by (repeat' (first | (with_reducible first | exact Chg.refl _ _ | assumption | refine Chg.alloc ?_ _ | refine Chg.drew ?_ | refine Chg.drewN ?_ _ | refine Chg.setCell ?_ ?_ _ | refine Chg.upc ?_ (by assumption) | refine Chg.call ?_ (by assumption) ?_) | (refine Or.inl ?_; (simp; done)) | (simp; done) | (simp; omega) | omega)))).up)).mono ?_); rintro E w2 ⟨⟨gc, rfl⟩, hu2⟩; have z2 := hu2.size; (try simp at z2); have R5_w2 : Row w2 w1.heap.size #[.int .i64 x, .int .i64 y] := Row.up (show Row _ w1.heap.size #[.int .i64 x, .int .i64 y] from (by exact ra)) hu2; have R3_w2 : Row w2 w.heap.size #[.int .i64 bx, .int .i64 bz] := Row.up (show Row _ w.heap.size #[.int .i64 bx, .int .i64 bz] from (by exact ra)) hu2; have R7_w2 : Row w2 (w1.heap.size + 1) #[.int .i64 0, .int .i64 0] := Row.up (show Row _ (w1.heap.size + 1) #[.int .i64 0, .int .i64 0] from (by exact ra)) hu2; have lR7_w2 := R7_w2.lt; have cR7_w2_0 := R7_w2.cell 0 rfl; have fR7_w2_0 := R7_w2.free 0; have cR7_w2_1 := R7_w2.cell 1 rfl; have fR7_w2_1 := R7_w2.free 1; (try dsimp only))
    refine hK.out _ _ ?_ (fun hHeld => ?_)
    · exact s4_of R5_w2 R3_w2
    clear hK K
    (try simp only [Act.put, lga, lgz, lgs, lsa, lsz, lss])
    refine wpAnyH_ready (rs := [4]) (by decide +kernel) (by simp) ?_
    refine AllReadyH.cons rfl (fun K hK => ?_) (AllReadyH.nil)
    (try simp only [lga, lgz, lgs])
    (go_simp; go_at_call 25; (with_reducible refine (moved_calls C 65536 0 F FM _ dk x y bx bz _).mono ?_); rw [HM.out]; rintro E w3 ⟨rfl, hu3⟩; have z3 := hu3.size; (try simp at z3); have R5_w3 : Row w3 w1.heap.size #[.int .i64 x, .int .i64 y] := Row.up (show Row _ w1.heap.size #[.int .i64 x, .int .i64 y] from (by exact ra)) hu3; have R3_w3 : Row w3 w.heap.size #[.int .i64 bx, .int .i64 bz] := Row.up (show Row _ w.heap.size #[.int .i64 bx, .int .i64 bz] from (by exact ra)) hu3; have R7_w3 : Row w3 (w1.heap.size + 1) #[.int .i64 0, .int .i64 0] := Row.up (show Row _ (w1.heap.size + 1) #[.int .i64 0, .int .i64 0] from (by exact ra)) hu3; have lR7_w3 := R7_w3.lt; have cR7_w3_0 := R7_w3.cell 0 rfl; have fR7_w3_0 := R7_w3.free 0; have cR7_w3_1 := R7_w3.cell 1 rfl; have fR7_w3_1 := R7_w3.free 1; have u3 : Up w w3 := (show Chg [] w w3 by (repeat' (first | (with_reducible first | exact Chg.refl _ _ | assumption | refine Chg.alloc ?_ _ | refine Chg.drew ?_ | refine Chg.drewN ?_ _ | refine Chg.setCell ?_ ?_ _ | refine Chg.upc ?_ (by assumption) | refine Chg.call ?_ (by assumption) ?_) | (refine Or.inl ?_; (simp; done)) | (simp; done) | (simp; omega) | omega))).up; (try dsimp only))
    refine hK.out _ _ ?_ (fun hHeld => ?_)
    · exact s4_of R5_w3 R3_w3
    clear hK K
    (try simp only [Act.put, lga, lgz, lgs, lsa, lsz, lss])
    refine wpAnyH_take (i := 5) (v := ?_) rfl (by kernel_rfl) (by kernel_rfl) (by kernel_rfl) (fun _ _ _ h => h) (Or.inl ⟨by rfl, ?_⟩) (by assumption) ?_
    rotate_left
    · intro w2 hSw
      (try dsimp only at hSw)
      (try (obtain ⟨s0, s1, s2, s3⟩ := hSw))
      go_simp
      (try (with_reducible rfl))
    (try simp only [Act.put, lga, lgz, lgs, lsa, lsz, lss])
    refine wpAnyH_take (i := 6) (v := ?_) rfl (by kernel_rfl) (by kernel_rfl) (by kernel_rfl) (fun _ _ _ h => h) (Or.inl ⟨by rfl, ?_⟩) (by assumption) ?_
    rotate_left
    · intro w2 hSw
      (try dsimp only at hSw)
      (try (obtain ⟨s0, s1, s2, s3⟩ := hSw))
      go_simp
      (try (with_reducible rfl))
    (try simp only [Act.put, lga, lgz, lgs, lsa, lsz, lss])
    refine wpAnyH_take (i := 7) (v := ?_) rfl (by kernel_rfl) (by kernel_rfl) (by kernel_rfl) (fun _ _ _ h => h) (Or.inl ⟨by rfl, ?_⟩) (by assumption) ?_
    rotate_left
    · intro w2 hSw
      (try dsimp only at hSw)
      (try (obtain ⟨s0, s1, s2, s3⟩ := hSw))
      go_simp
      (try (with_reducible rfl))
    (try simp only [Act.put, lga, lgz, lgs, lsa, lsz, lss])
    refine wpAnyH_ready (rs := [9]) (by decide +kernel) (by simp) ?_
    refine AllReadyH.cons rfl (fun K hK => ?_) (AllReadyH.nil)
    (try simp only [lga, lgz, lgs])
    (go_simp)
    refine hK.out _ _ ?_ (fun hHeld => ?_)
    · exact s4_of (show Row _ w1.heap.size #[.int .i64 x, .int .i64 y] from (by exact ra)) (show Row _ w.heap.size #[.int .i64 bx, .int .i64 bz] from (by exact ra))
    clear hK K
    (try simp only [Act.put, lga, lgz, lgs, lsa, lsz, lss])
    refine wpAnyH_take (i := 10) (v := ?_) rfl (by kernel_rfl) (by kernel_rfl) (by kernel_rfl) (fun _ _ _ h => h) (Or.inl ⟨by rfl, ?_⟩) (by assumption) ?_
    rotate_left
    · intro w2 hSw
      (try dsimp only at hSw)
      (try (obtain ⟨s0, s1, s2, s3⟩ := hSw))
      go_simp
      (try (with_reducible rfl))
    (try simp only [Act.put, lga, lgz, lgs, lsa, lsz, lss])
    refine wpAnyH_done (by kernel_rfl) ?_ _
    (try dsimp only)
    generalize hW : World.setCell (World.setCell _ _ _) _ _ = wR
    have R7 : Row wR (w1.heap.size + 1) #[.int .i64 tx, .int .i64 tz] := by rw [← hW]; exact (by exact ro)
    have uR : Up w wR := by rw [← hW]; exact (show Chg [] w _ from by (repeat' (first | (with_reducible first | exact Chg.refl _ _ | assumption | refine Chg.alloc ?_ _ | refine Chg.drew ?_ | refine Chg.drewN ?_ _ | refine Chg.setCell ?_ ?_ _ | refine Chg.upc ?_ (by assumption) | refine Chg.call ?_ (by assumption) ?_) | (refine Or.inl ?_; (simp; done)) | (simp; done) | (simp; omega) | omega))).up
    have zR := uR.size
    have lR7 := R7.lt; have cR7_0 := R7.cell 0 rfl; have fR7_0 := R7.free 0; have cR7_1 := R7.cell 1 rfl; have fR7_1 := R7.free 1
    clear hW hHeld
    go_wp2
    refine wp_region_held_drew (S := fun w' => Row w' (w1.heap.size + 1) #[.int .i64 tx, .int .i64 tz]) (by kernel_rfl) ?_ (fun hHeld => ?_)
    · exact Row.drew R7
    refine wpAnyH_take (i := 0) (v := ?_) rfl (by kernel_rfl) (by kernel_rfl) (by kernel_rfl) (fun _ _ _ h => h) (Or.inl ⟨by rfl, ?_⟩) (by assumption) ?_
    rotate_left
    · intro w2 hSw
      (try dsimp only at hSw)
      (try (obtain ⟨hs1, hs2, hs3⟩ := hSw))
      go_simp
      (try (with_reducible rfl))
    (try simp only [Act.put, lga, lgz, lgs, lsa, lsz, lss])
    refine wpAnyH_take (i := 2) rfl (by kernel_rfl) (by kernel_rfl) (by kernel_rfl) (fun _ _ _ h => h) (yieldsIf_load_mid (by rfl) 24 (.tmp 7) rfl (w1.heap.size + 1) 0 rfl #[.int .i64 tx, .int .i64 tz].toList _ (fun _ h => rng0 h) Tryz.underlying24 rfl (by exact infoP)) (by assumption) ?_
    (try simp only [Act.put, lga, lgz, lgs, lsa, lsz, lss])
    refine wpAnyH_ready (rs := [1]) (by decide +kernel) (by simp) ?_
    refine AllReadyH.cons rfl (fun K hK => ?_) (AllReadyH.nil)
    (try simp only [lga, lgz, lgs])
    (go_simp; go_at_call 20; (with_reducible refine (path_calls g p _ (Row.cell (show Row _ g (gsC C 65536 (.slice none 0 0) 0 F FM dk p 2 n) from Row.drew (HG.out.up uR)) 26 rfl)).mono ?_); rintro E wx ⟨rfl, rfl⟩; (try dsimp only))
    refine hK.out _ _ ?_ (fun hHeld => ?_)
    · exact hHeld
    clear hK K
    (try simp only [Act.put, lga, lgz, lgs, lsa, lsz, lss])
    refine wpAnyH_ready (rs := [3]) (by decide +kernel) (by simp) ?_
    refine AllReadyH.cons rfl (fun K hK => ?_) (AllReadyH.nil)
    (try simp only [lga, lgz, lgs])
    (go_simp; go_at_call 21; (with_reducible refine (Path.move_onto p pv T tx tz _ (Path.PathIs.up (w := wR) (HP.out.up uR) (Up.drew (Up.refl _))) HLK.out).mono ?_); rw [HTM.out]; rintro E w7 ⟨rfl, hl7⟩; have HL7 := Lib.hid (Path.Left.of_up (show Up w _ from Up.drew uR) hl7); (try dsimp only))
    refine hK.out _ _ ?_ (fun hHeld => ?_)
    · exact (let ⟨_, _, hc7, _⟩ := hl7; Row.chg hHeld hc7 (fun hk => by rcases List.mem_cons.1 hk with h1 | h1; (have := HLP.out; omega); (have := HLV.out _ h1; omega)))
    clear hK K
    (try simp only [Act.put, lga, lgz, lgs, lsa, lsz, lss])
    refine wpAnyH_take (i := 4) (v := ?_) rfl (by kernel_rfl) (by kernel_rfl) (by kernel_rfl) (fun _ _ _ h => h) (Or.inl ⟨by rfl, ?_⟩) (by assumption) ?_
    rotate_left
    · intro w2 hSw
      (try dsimp only at hSw)
      (try (obtain ⟨hs1, hs2, hs3⟩ := hSw))
      go_simp
      (try (with_reducible rfl))
    (try simp only [Act.put, lga, lgz, lgs, lsa, lsz, lss])
    refine wpAnyH_done (by kernel_rfl) ?_ _
    clear hHeld
    go_wp2
    go_ret
    exact ⟨rfl, HL7.out⟩

/-- what on does at a place -/
theorem on_calls (g p c : Nat) (C : M6) (F : Int) (FM : M6) (dk : Bool) (n : Int) (pv v : Value) (l : List Cl) (x y bx bz : Int) (w : World) (h : Prg w g p c C F FM dk n pv v (T1 n x y) l) :
    Calls Tryz.prog 38 #[.pointer (some ⟨g, 0, none⟩), .agg #[.int .i64 bx, .int .i64 bz]] w fun E w' => E = .returned (.int .i64 (movedR C x y bx bz).2) ∧
      Shown w g p c C F FM dk n pv v l (if (movedR C x y bx bz).2 = 0 then T1 n (movedR C x y bx bz).1.1 (movedR C x y bx bz).1.2 else T1 n x y) [] w' := by
  obtain ⟨⟨⟨tx, tz⟩, te⟩, hM⟩ : ∃ X, movedR C x y bx bz = X := ⟨_, rfl⟩
  have hfp : fitsP (tx, tz) = true := by have := moved_fits C x y bx bz; rwa [hM] at this
  have hmv := move_T1 n x y tx tz hfp
  rw [hM]
  by_cases ht : te = 0
  · subst ht
    refine (on_good g p C F FM dk n pv _ x y bx bz tx tz w h.rg h.pa (cur_T1 n x y) hM (last_T1 n x y) (by rw [hmv])).mono ?_
    rintro E w' ⟨rfl, hl⟩
    rw [hmv] at hl
    rw [if_pos rfl]
    exact ⟨rfl, Shown.moved h hl⟩
  · refine (on_bad g p C F FM dk n pv _ x y bx bz tx tz w h.rg h.pa (cur_T1 n x y) te hM ht).mono ?_
    rintro E w' ⟨rfl, hu⟩
    rw [if_neg ht]
    exact ⟨rfl, Shown.same h hu⟩

end Go.Proofs.YtjdbefpfjhdmoaaGreatDoor.Sh
end

section
namespace Go.Proofs.YtjdbefpfjhdmoaaGreatDoor.Sh
open Go.Proofs.YtjdbefpfjhdmoaaGreatDoor.ZGH
open Go.ChangeShapes Go.WideShapes Go.ChangeAt Go.RowKit
open Go.Proofs.YtjdbefpfjhdmoaaGreatDoor.Gs
open Go.Proofs.YtjdbefpfjhdmoaaGreatDoor.MatM (M6)
open Go.Proofs.YtjdbefpfjhdmoaaGreatDoor.PathM
set_option linter.unusedVariables false
set_option linter.unusedSimpArgs false

theorem at_op {P : Program} {ops : Array Oper} {rest : List Oper} {o : Oper} {a : Act} {w : World} {Q : Exit → Act → World → Prop} (op : Op) (ho : o.op = op) (h : wpList P ops Q (o :: rest) a w) : wpList P ops Q (o :: rest) a w := h
/-- what Spaced does: the error, the place, what is shown -/
def spR (C : M6) (F : Int) (FM : M6) (dk : Bool) (a o : Int × Int) (letter : Int) : Int × Int → List Int → Int × (Int × Int) × List It
  | q, [] => (0, q, [])
  | q, b :: bs =>
    if (letR C F FM dk q.1 q.2 [b]).1 ≠ 0 then ((letR C F FM dk q.1 q.2 [b]).1, q, [])
    else if (movedR C (letR C F FM dk q.1 q.2 [b]).2.1.1 (letR C F FM dk q.1 q.2 [b]).2.1.2 a.1 a.2).2 ≠ 0 then ((movedR C (letR C F FM dk q.1 q.2 [b]).2.1.1 (letR C F FM dk q.1 q.2 [b]).2.1.2 a.1 a.2).2, (letR C F FM dk q.1 q.2 [b]).2.1, (letR C F FM dk q.1 q.2 [b]).2.2)
    else if b = letter then
      if (movedR C (movedR C (letR C F FM dk q.1 q.2 [b]).2.1.1 (letR C F FM dk q.1 q.2 [b]).2.1.2 a.1 a.2).1.1 (movedR C (letR C F FM dk q.1 q.2 [b]).2.1.1 (letR C F FM dk q.1 q.2 [b]).2.1.2 a.1 a.2).1.2 o.1 o.2).2 ≠ 0 then ((movedR C (movedR C (letR C F FM dk q.1 q.2 [b]).2.1.1 (letR C F FM dk q.1 q.2 [b]).2.1.2 a.1 a.2).1.1 (movedR C (letR C F FM dk q.1 q.2 [b]).2.1.1 (letR C F FM dk q.1 q.2 [b]).2.1.2 a.1 a.2).1.2 o.1 o.2).2, (movedR C (letR C F FM dk q.1 q.2 [b]).2.1.1 (letR C F FM dk q.1 q.2 [b]).2.1.2 a.1 a.2).1, (letR C F FM dk q.1 q.2 [b]).2.2)
      else ((spR C F FM dk a o letter (movedR C (movedR C (letR C F FM dk q.1 q.2 [b]).2.1.1 (letR C F FM dk q.1 q.2 [b]).2.1.2 a.1 a.2).1.1 (movedR C (letR C F FM dk q.1 q.2 [b]).2.1.1 (letR C F FM dk q.1 q.2 [b]).2.1.2 a.1 a.2).1.2 o.1 o.2).1 bs).1, (spR C F FM dk a o letter (movedR C (movedR C (letR C F FM dk q.1 q.2 [b]).2.1.1 (letR C F FM dk q.1 q.2 [b]).2.1.2 a.1 a.2).1.1 (movedR C (letR C F FM dk q.1 q.2 [b]).2.1.1 (letR C F FM dk q.1 q.2 [b]).2.1.2 a.1 a.2).1.2 o.1 o.2).1 bs).2.1, (letR C F FM dk q.1 q.2 [b]).2.2 ++ (spR C F FM dk a o letter (movedR C (movedR C (letR C F FM dk q.1 q.2 [b]).2.1.1 (letR C F FM dk q.1 q.2 [b]).2.1.2 a.1 a.2).1.1 (movedR C (letR C F FM dk q.1 q.2 [b]).2.1.1 (letR C F FM dk q.1 q.2 [b]).2.1.2 a.1 a.2).1.2 o.1 o.2).1 bs).2.2)
    else ((spR C F FM dk a o letter (movedR C (letR C F FM dk q.1 q.2 [b]).2.1.1 (letR C F FM dk q.1 q.2 [b]).2.1.2 a.1 a.2).1 bs).1, (spR C F FM dk a o letter (movedR C (letR C F FM dk q.1 q.2 [b]).2.1.1 (letR C F FM dk q.1 q.2 [b]).2.1.2 a.1 a.2).1 bs).2.1, (letR C F FM dk q.1 q.2 [b]).2.2 ++ (spR C F FM dk a o letter (movedR C (letR C F FM dk q.1 q.2 [b]).2.1.1 (letR C F FM dk q.1 q.2 [b]).2.1.2 a.1 a.2).1 bs).2.2)
section
variable {C : M6} {F : Int} {FM : M6} {dk : Bool} {a o : Int × Int} {letter b re rx ry mx mz me kx kz ke : Int} {q : Int × Int} {bs : List Int} {ri : List It}
theorem spR_a (hL : letR C F FM dk q.1 q.2 [b] = (re, (rx, ry), ri)) (h : re ≠ 0) : spR C F FM dk a o letter q (b :: bs) = (re, q, []) := by
  unfold spR; rw [hL]; rw [if_pos h]
theorem spR_b (hL : letR C F FM dk q.1 q.2 [b] = (re, (rx, ry), ri)) (h : re = 0) (hM : movedR C rx ry a.1 a.2 = ((mx, mz), me)) (h2 : me ≠ 0) : spR C F FM dk a o letter q (b :: bs) = (me, (rx, ry), ri) := by
  subst h
  unfold spR; rw [hL]; dsimp only; rw [hM, if_neg (by decide), if_pos h2]
theorem spR_c (hL : letR C F FM dk q.1 q.2 [b] = (re, (rx, ry), ri)) (h : re = 0) (hM : movedR C rx ry a.1 a.2 = ((mx, mz), me)) (h2 : me = 0) (h3 : ¬ b = letter) : spR C F FM dk a o letter q (b :: bs) = ((spR C F FM dk a o letter (mx, mz) bs).1, (spR C F FM dk a o letter (mx, mz) bs).2.1, ri ++ (spR C F FM dk a o letter (mx, mz) bs).2.2) := by
  subst h h2
  rw [spR]; rw [hL]; dsimp only; rw [hM, if_neg (by decide), if_neg (fun h => h rfl), if_neg h3]
theorem spR_d (hL : letR C F FM dk q.1 q.2 [b] = (re, (rx, ry), ri)) (h : re = 0) (hM : movedR C rx ry a.1 a.2 = ((mx, mz), me)) (h2 : me = 0) (h3 : b = letter) (hK : movedR C mx mz o.1 o.2 = ((kx, kz), ke)) (h4 : ke ≠ 0) : spR C F FM dk a o letter q (b :: bs) = (ke, (mx, mz), ri) := by
  subst h h2
  rw [spR]; rw [hL]; dsimp only; rw [hM, if_neg (by decide), if_neg (fun h => h rfl), if_pos h3]; dsimp only; rw [hK, if_pos h4]
theorem spR_e (hL : letR C F FM dk q.1 q.2 [b] = (re, (rx, ry), ri)) (h : re = 0) (hM : movedR C rx ry a.1 a.2 = ((mx, mz), me)) (h2 : me = 0) (h3 : b = letter) (hK : movedR C mx mz o.1 o.2 = ((kx, kz), ke)) (h4 : ke = 0) : spR C F FM dk a o letter q (b :: bs) = ((spR C F FM dk a o letter (kx, kz) bs).1, (spR C F FM dk a o letter (kx, kz) bs).2.1, ri ++ (spR C F FM dk a o letter (kx, kz) bs).2.2) := by
  subst h h2 h4
  rw [spR]; rw [hL]; dsimp only; rw [hM, if_neg (by decide), if_neg (fun h => h rfl), if_pos h3]; dsimp only; rw [hK, if_neg (fun h => h rfl)]
theorem let_err {x y : Int} {zs : List Int} (h : (letR C F FM dk x y zs).1 ≠ 0) : (letR C F FM dk x y zs).2 = ((x, y), []) := by
  unfold letR at h ⊢
  split
  · rfl
  · rename_i h1
    rw [if_neg h1] at h
    split
    · rfl
    · rename_i h2
      rw [if_neg h2] at h
      split
      · rfl
      · rename_i h3
        rw [if_neg h3] at h
        split
        · rename_i h4
          rw [if_pos h4] at h
          split
          · rfl
          · rename_i h5
            rw [if_neg h5] at h
            exact absurd rfl h
        · rename_i h4
          rw [if_neg h4] at h
          exact absurd rfl h
theorem let_one {x y : Int} {zs : List Int} : (letR C F FM dk x y zs).2.2.length ≤ 1 := by
  unfold letR
  split
  · simp
  · split
    · simp
    · split
      · simp
      · split
        · split
          · simp
          · simp
        · simp
end
section
variable {w w1 w2 : World} {g p c : Nat} {C : M6} {F : Int} {FM : M6} {dk : Bool} {n : Int} {pv v : Value} {T : St} {l : List Cl}
/-- one behind the other -/
theorem Shown.more {T2 : St} {i1 i2 : List It} {pv1 v1 : Value} {l1 : List Cl} (a2 : l1.map (·.it) = l.map (·.it) ++ i1) (a3 : Chg (p :: c :: (own pv ++ own v)) w w1) (a4 : ∀ b ∈ own pv1 ++ own v1, b ∈ own pv ++ own v ∨ w.heap.size ≤ b) (a5 : ∀ b ∈ bys l1, b ∈ bys l ∨ w.heap.size ≤ b)
    (h2 : Shown w1 g p c C F FM dk n pv1 v1 l1 T2 i2 w2) : Shown w g p c C F FM dk n pv v l T2 (i1 ++ i2) w2 := by
  obtain ⟨pv2, v2, l2, b1, b2, b3, b4, b5⟩ := h2
  have hz := a3.size
  refine ⟨pv2, v2, l2, b1, by rw [b2, a2, List.append_assoc], a3.call b3 (fun k hk => ?_), fun b hb => ?_, fun b hb => ?_⟩
  · simp only [List.mem_cons] at hk ⊢
    rcases hk with h1 | h1 | h1
    · exact Or.inl (Or.inl h1)
    · exact Or.inl (Or.inr (Or.inl h1))
    · exact (a4 k h1).imp (fun h => Or.inr (Or.inr h)) id
  · rcases b4 b hb with h1 | h1
    · exact a4 b h1
    · exact Or.inr (by omega)
  · rcases b5 b hb with h1 | h1
    · exact a5 b h1
    · exact Or.inr (by omega)
end
theorem ints_one {w : World} {g o c : Nat} {z : Int} (hb : g < w.heap.size) (hc : w.cell? ⟨g, o, none⟩ = some (.int .u8 z)) (hw : (Lit.int .u8 z).wf = true) (h1 : 1 ≤ c) (h2 : c ≤ 9223372036854775807) : Ints .u8 w (.slice (some ⟨g, o, none⟩) 1 c) [z] :=
  ⟨some ⟨g, o, none⟩, c, rfl, h1, h2, fun e => (by cases e), fun _ => ⟨g, o, rfl, hb, fun i hi => by
    have : i = 0 := by simp at hi; omega
    subst this
    exact hc⟩, fun y hy => by rw [List.mem_singleton.1 hy]; exact hw⟩
/-- behind what was shown: more -/
theorem show_from {w w1 : World} (g p c : Nat) (C : M6) (F : Int) (FM : M6) (dk : Bool) (n : Int) (pv v : Value) (l : List Cl) (x y : Int) (its : List It) (ba : Option Addr) (bc N : Nat) (bs : List Int) (hN : bs.length = N) (h : Shown w g p c C F FM dk n pv v l (T1 n x y) its w1)
    (hxy : fitsP (x, y) = true) (hv : Ints .u8 w1 (.slice ba N bc) bs) (hl : N ≤ 65535) (hln : l.length + its.length < 4096) (hF1 : F < 14) (h4 : (Lit.int .i64 C.x).wf = true) (h5 : (Lit.int .i64 C.y).wf = true) (hT : Font.Tab w1) :
    Calls Tryz.prog 7 #[.pointer (some ⟨c, 0, none⟩), .pointer (some ⟨g, 0, none⟩), .slice ba N bc] w1 fun E w' =>
      E = .returned (.int .i64 (letR C F FM dk x y bs).1) ∧ Shown w g p c C F FM dk n pv v l (T1 n (letR C F FM dk x y bs).2.1.1 (letR C F FM dk x y bs).2.1.2) (its ++ (letR C F FM dk x y bs).2.2) w' := by
  subst hN
  obtain ⟨pv1, v1, l1, a1, a2, a3, a4, a5⟩ := h
  refine (show_calls g p c C F FM dk n pv1 v1 l1 x y ba bc bs w1 a1 hxy hv hl (by have := congrArg List.length a2; simp at this; omega) hF1 h4 h5 hT).mono ?_
  rintro E w' ⟨rfl, hs⟩
  exact ⟨rfl, Shown.more a2 a3 a4 a5 hs⟩
theorem on_from {w w1 : World} (g p c : Nat) (C : M6) (F : Int) (FM : M6) (dk : Bool) (n : Int) (pv v : Value) (l : List Cl) (x y bx bz : Int) (its : List It) (h : Shown w g p c C F FM dk n pv v l (T1 n x y) its w1) :
    Calls Tryz.prog 38 #[.pointer (some ⟨g, 0, none⟩), .agg #[.int .i64 bx, .int .i64 bz]] w1 fun E w' => E = .returned (.int .i64 (movedR C x y bx bz).2) ∧
      Shown w g p c C F FM dk n pv v l (if (movedR C x y bx bz).2 = 0 then T1 n (movedR C x y bx bz).1.1 (movedR C x y bx bz).1.2 else T1 n x y) its w' := by
  obtain ⟨pv1, v1, l1, a1, a2, a3, a4, a5⟩ := h
  refine (on_calls g p c C F FM dk n pv1 v1 l1 x y bx bz w1 a1).mono ?_
  rintro E w' ⟨rfl, hs⟩
  have := Shown.more a2 a3 a4 a5 hs
  rw [List.append_nil] at this
  exact ⟨rfl, this⟩
theorem shown_chg {w w1 : World} {g p c : Nat} {C : M6} {F : Int} {FM : M6} {dk : Bool} {n : Int} {pv v : Value} {T : St} {l : List Cl} {its : List It} (h : Shown w g p c C F FM dk n pv v l T its w1) : Chg (p :: c :: (own pv ++ own v)) w w1 := by
  obtain ⟨_, _, _, _, _, h3, _⟩ := h
  exact h3
theorem drop_at {bs : List Int} {k : Nat} {b : Int} (h : bs[k]? = some b) : bs.drop k = b :: bs.drop (k + 1) := by
  have h1 := (List.getElem?_eq_some_iff.1 h)
  rw [List.drop_eq_getElem_cons h1.1, h1.2]

theorem ints_cap {k : IntKind} {w : World} {a : Option Addr} {N c : Nat} {zs : List Int} (h : Ints k w (.slice a N c) zs) (hN : zs.length = N) : N ≤ c ∧ c ≤ 9223372036854775807 := by
  obtain ⟨ao, c', e, hl, hm, _⟩ := h
  injection e with _ _ e3
  subst e3
  exact ⟨by omega, hm⟩
theorem ints_some {k : IntKind} {w : World} {a : Option Addr} {N c : Nat} {zs : List Int} (h : Ints k w (.slice a N c) zs) (hN : zs.length = N) (h0 : 0 < N) : ∃ g o, a = some ⟨g, o, none⟩ ∧ g < w.heap.size ∧ ∀ i, i < N → w.cell? ⟨g, o + i, none⟩ = some (.int k (zs.getD i 0)) := by
  obtain ⟨ao, c', e, hl, hm, hno, h1, hw⟩ := h
  injection e with e1 e2 e3
  subst e1 e3
  obtain ⟨g, o, h2, h3, h4⟩ := h1 (by omega)
  exact ⟨g, o, h2, h3, fun i hi => h4 i (by omega)⟩
theorem Prg.mut_ltP {w : World} {g p c : Nat} {C : M6} {F : Int} {FM : M6} {dk : Bool} {n : Int} {pv v : Value} {T : St} {l : List Cl} (h : Prg w g p c C F FM dk n pv v T l) : ∀ b ∈ p :: c :: (own pv ++ own v), b < w.heap.size := fun b hb => by
  simp only [List.mem_cons, List.mem_append] at hb
  rcases hb with rfl | rfl | hb | hb
  · exact h.pa.row.lt
  · exact h.cv.row.lt
  · exact pv_lt h.pa b hb
  · exact own_lt h.cv.its b hb
set_option maxRecDepth 8000 in
set_option maxHeartbeats 8000000 in
theorem spaced_calls (g p c : Nat) (C : M6) (F : Int) (FM : M6) (dk : Bool) (n : Int) (pv v : Value) (l : List Cl) (x y ax ay ox oy letter : Int) (ba : Option Addr) (bc N : Nat) (bs : List Int) (hN : bs.length = N) (w : World) (h : Prg w g p c C F FM dk n pv v (T1 n x y) l)
    (hxy : fitsP (x, y) = true) (hv : Ints .u8 w (.slice ba N bc) bs) (hl : N ≤ 300) (hln : l.length ≤ 100) (hF0 : ¬ F < 0) (hF1 : F < 14) (h4 : (Lit.int .i64 C.x).wf = true) (h5 : (Lit.int .i64 C.y).wf = true)
    (hT : ∀ w', Chg (p :: c :: (own pv ++ own v)) w w' → Font.Tab w') (hoff : 0 < N → ∀ b ∈ own (.slice ba N bc), b ∉ p :: c :: (own pv ++ own v)) :
    Calls Tryz.prog 10 #[.pointer (some ⟨c, 0, none⟩), .pointer (some ⟨g, 0, none⟩), .slice ba N bc, .agg #[.int .i64 ax, .int .i64 ay], .agg #[.int .i64 ox, .int .i64 oy], .int .i64 letter] w fun E w' =>
      E = .returned (.int .i64 (spR C F FM dk (ax, ay) (ox, oy) letter (x, y) bs).1) ∧ Shown w g p c C F FM dk n pv v l (T1 n (spR C F FM dk (ax, ay) (ox, oy) letter (x, y) bs).2.1.1 (spR C F FM dk (ax, ay) (ox, oy) letter (x, y) bs).2.1.2) (spR C F FM dk (ax, ay) (ox, oy) letter (x, y) bs).2.2 w' := by
  have HH := Lib.hid h
  have HR := Lib.hid (show placeR F (T1 n x y) = ((x, y), 0) by unfold placeR; rw [if_neg hF0]; rfl)
  have HN := Lib.hid hN
  have HV := Lib.hid hv
  have HT := Lib.hid hT
  have HXY := Lib.hid hxy
  have HOF := Lib.hid hoff
  have HLS := Lib.hid (fun b hb => h.mut_ltP b hb)
  clear h hN hv hT hxy hoff
  go_enter Tryz.func10, Tryz.ntmps10
  go_wp2_with (first
    | (go_at_call 23; ((with_reducible refine (ready_calls g C 65536 0 F FM dk p 2 n pv _ _ (HH.out.up (show Up w _ by exact ua)).rg (HH.out.up (show Up w _ by exact ua)).pa).mono ?_); rw [HR.out]; rintro E w1 ⟨⟨gc, hg1, rfl⟩, hu1⟩; have z1 := hu1.size; (try simp at z1); have R9_w1 : Row w1 w.heap.size #[.int .i64 ax, .int .i64 ay] := Row.up (show Row _ w.heap.size #[.int .i64 ax, .int .i64 ay] by exact ra) hu1; have R10_w1 : Row w1 (w.heap.size + 1) #[.int .i64 ox, .int .i64 oy] := Row.up (show Row _ (w.heap.size + 1) #[.int .i64 ox, .int .i64 oy] by exact ra) hu1; have HU1 := Lib.hid (show Up w w1 by exact ua)))
    | ((refine at_op (.store 73 (.tmp 13) _) rfl ?_); (refine wpList_store_Row rfl 73 (.tmp 13) _ rfl w1.heap.size #[.int .i64 C.a, .int .i64 C.b, .int .i64 C.c, .int .i64 C.d, .int .i64 C.x, .int .i64 C.y, .int .i64 1, .int .i64 0, .int .i64 0, .int .i64 0, .int .i64 0, .int .i64 65536, .int .i64 0, .int .i64 0, .int .i64 655360, .slice none 0 0, .int .i64 0, .int .i64 F, .int .i64 FM.a, .int .i64 FM.b, .int .i64 FM.c, .int .i64 FM.d, .int .i64 FM.x, .int .i64 FM.y, .slice (some ⟨gc, 0, none⟩) 0 0, .bool dk] rfl rfl #[.int .i64 0, .int .i64 0, .int .i64 0, .int .i64 0, .int .i64 0, .int .i64 0, .int .i64 0, .int .i64 0, .int .i64 0, .int .i64 0, .int .i64 0, .int .i64 0, .int .i64 0, .int .i64 0, .int .i64 0, .slice none 0 0, .int .i64 0, .int .i64 0, .int .i64 0, .int .i64 0, .int .i64 0, .int .i64 0, .int .i64 0, .int .i64 0, .slice none 0 0, .bool false] (by exact ra) infoSt rfl rfl (by simp [Value.oneCell']) ?_); intro w2 hr2 hc2; have z2 := hc2.size; (try simp at z2); have RP2 : Row w2 (w1.heap.size + 1) #[.int .i64 0, .int .i64 0] := (by exact ra); have lp2 := RP2.lt; have p2_0 : w2.cell? ⟨w1.heap.size + 1, 0, none⟩ = some (.int .i64 0) := RP2.cell 0 rfl; have p2_1 : w2.cell? ⟨w1.heap.size + 1, 1, none⟩ = some (.int .i64 0) := RP2.cell 1 rfl; have pf2_0 := RP2.free 0; have pf2_1 := RP2.free 1))
  go_loopw [38] (fun s38 wr => ∃ k : Nat, ∃ qx qy its, k ≤ N ∧ s38 = .int .i64 k ∧ Hid (Shown w1 g p c C F FM dk n pv v l (T1 n qx qy) its wr) ∧ Hid (fitsP (qx, qy) = true) ∧ Hid (its.length ≤ k) ∧ Hid (spR C F FM dk (ax, ay) (ox, oy) letter (x, y) bs = ((spR C F FM dk (ax, ay) (ox, oy) letter (qx, qy) (bs.drop k)).1, (spR C F FM dk (ax, ay) (ox, oy) letter (qx, qy) (bs.drop k)).2.1, its ++ (spR C F FM dk (ax, ay) (ox, oy) letter (qx, qy) (bs.drop k)).2.2))) (fun s38 _ => N - (intOf s38).toNat)
  case atStart => exact ⟨0, x, y, [], Nat.zero_le _, rfl, Lib.hid (Shown.same (HH.out.up HU1.out) ((show Chg [] w1 _ from (by (repeat' (first | (with_reducible first | exact Chg.refl _ _ | assumption | refine Chg.alloc ?_ _ | refine Chg.drew ?_ | refine Chg.drewN ?_ _ | refine Chg.setCell ?_ ?_ _ | refine Chg.upc ?_ (by assumption) | refine Chg.call ?_ (by assumption) ?_) | (refine Or.inl ?_; (simp; done)) | (simp; done) | (simp; omega) | omega)))).up)), HXY, Lib.hid (by simp), Lib.hid (by simp)⟩
  case round =>
    obtain ⟨k, qx, qy, its, hk, rfl, HSR, HFQ, HIL, HEQ⟩ := hrel
    have hcr := shown_chg HSR.out
    have hzr := hcr.size
    by_cases hlt : k < N
    · obtain ⟨b, hb⟩ : ∃ b, bs[k]? = some b := ⟨_, List.getElem?_eq_getElem (by have := HN.out; omega)⟩
      obtain ⟨gb, ob, rfl, hgb, hcb⟩ := ints_some HV.out HN.out (by omega)
      have hcm := List.mem_of_getElem? hb
      have hwf := HV.out.wf b hcm
      have hbc : N ≤ bc ∧ bc ≤ 9223372036854775807 := ints_cap HV.out HN.out
      obtain ⟨hbc1, hbc2⟩ := hbc
      have hcw : Chg (p :: c :: (own pv ++ own v)) w wr := ((Chg.of_up HU1.out).call hcr (fun k hk => Or.inl hk))
      have hq : wr.cell? ⟨gb, ob + k, none⟩ = some (.int .u8 b) := by
        rw [hcw.cells.1 gb _ hgb (HOF.out (by omega) gb (by simp [own, Value.ownBlock])), hcb k hlt]
        have : bs.getD k 0 = b := by rw [List.getD_eq_getElem?_getD, hb]; rfl
        rw [this]
      have HTR := Lib.hid (HT.out wr hcw)
      have HBG := Lib.hid (show gb < wr.heap.size from Nat.lt_of_lt_of_le hgb hcw.size)
      have HCB := Lib.hid hq
      have HWB := Lib.hid hwf
      have HD := Lib.hid (drop_at hb)
      have hwrap : IntKind.i64.wrap b = b := by have := bounds_u8 hwf; exact wrap_small (by omega) (by omega)
      have hlg := HBG.out
      obtain ⟨⟨re, ⟨rx, ry⟩, ri⟩, hL⟩ : ∃ X, letR C F FM dk qx qy [b] = X := ⟨_, rfl⟩
      obtain ⟨⟨⟨mx, mz⟩, me⟩, hM⟩ : ∃ X, movedR C rx ry ax ay = X := ⟨_, rfl⟩
      obtain ⟨⟨⟨kx, kz⟩, ke⟩, hK⟩ : ∃ X, movedR C mx mz ox oy = X := ⟨_, rfl⟩
      have HL := Lib.hid hL
      have HM := Lib.hid hM
      have HK := Lib.hid hK
      have HRL := Lib.hid (show ri.length ≤ 1 by have := let_one (C := C) (F := F) (FM := FM) (dk := dk) (x := qx) (y := qy) (zs := [b]); rwa [hL] at this)
      have HF1 := Lib.hid (show fitsP (mx, mz) = true by have := moved_fits C rx ry ax ay; rwa [hM] at this)
      have HF2 := Lib.hid (show fitsP (kx, kz) = true by have := moved_fits C mx mz ox oy; rwa [hK] at this)
      have HLE := Lib.hid (show re ≠ 0 → ((rx, ry), ri) = ((qx, qy), []) by
        intro h
        have := let_err (C := C) (F := F) (FM := FM) (dk := dk) (x := qx) (y := qy) (zs := [b]) (by rw [hL]; exact h)
        rwa [hL] at this)
      clear hcm hwf hb hcb hL hM hK hcw hcr
      by_cases hre : re = 0
      rotate_left
      · have t1 : (re == 0) = false := by simpa using hre
        have HRE := Lib.hid hre
        clear hre
        go_wp2_with (go_at_call 7; ((with_reducible refine (show_from g p c C F FM dk n pv v l qx qy its _ _ 1 [b] rfl HSR.out HFQ.out (ints_one HBG.out HCB.out HWB.out (by omega) (by omega)) (by decide) (by have := HIL.out; omega) hF1 h4 h5 HTR.out).mono ?_); rw [HL.out]; rintro E w4 ⟨rfl, hs4⟩; have hc4 := shown_chg hs4; have z4 := hc4.size; have R9_w4 : Row w4 w.heap.size #[.int .i64 ax, .int .i64 ay] := R9_w1.chg hc4 (fun hk => by have := HLS.out _ hk; omega); have c9_0 : w4.cell? ⟨w.heap.size, 0, none⟩ = some (.int .i64 ax) := R9_w4.cell 0 rfl; have c9_1 : w4.cell? ⟨w.heap.size, 1, none⟩ = some (.int .i64 ay) := R9_w4.cell 1 rfl; have l9 := R9_w4.lt; have HS4 := Lib.hid hs4; clear hs4 hc4))
        go_ret
        refine ⟨?_, Shown.of_up HU1.out (show Shown w1 g p c C F FM dk n pv v l (T1 n (spR C F FM dk (ax, ay) (ox, oy) letter (x, y) bs).2.1.1 (spR C F FM dk (ax, ay) (ox, oy) letter (x, y) bs).2.1.2) (spR C F FM dk (ax, ay) (ox, oy) letter (x, y) bs).2.2 _ from ?_)⟩
        · rw [HEQ.out, HD.out, spR_a (q := (qx, qy)) (a := (ax, ay)) (o := (ox, oy)) (letter := letter) HL.out HRE.out]; rfl
        · rw [HEQ.out, HD.out, spR_a (q := (qx, qy)) (a := (ax, ay)) (o := (ox, oy)) (letter := letter) HL.out HRE.out]; exact (by have h1 := HS4.out; have h2 := HLE.out HRE.out; simp only [Prod.mk.injEq] at h2; obtain ⟨⟨rfl, rfl⟩, rfl⟩ := h2; exact h1)
      · have HRE := Lib.hid hre
        subst hre
        by_cases hme : me = 0
        rotate_left
        · have t2 : (me == 0) = false := by simpa using hme
          have HME := Lib.hid hme
          clear hme
          go_wp2_with (first
            | (go_at_call 7; ((with_reducible refine (show_from g p c C F FM dk n pv v l qx qy its _ _ 1 [b] rfl HSR.out HFQ.out (ints_one HBG.out HCB.out HWB.out (by omega) (by omega)) (by decide) (by have := HIL.out; omega) hF1 h4 h5 HTR.out).mono ?_); rw [HL.out]; rintro E w4 ⟨rfl, hs4⟩; have hc4 := shown_chg hs4; have z4 := hc4.size; have R9_w4 : Row w4 w.heap.size #[.int .i64 ax, .int .i64 ay] := R9_w1.chg hc4 (fun hk => by have := HLS.out _ hk; omega); have c9_0 : w4.cell? ⟨w.heap.size, 0, none⟩ = some (.int .i64 ax) := R9_w4.cell 0 rfl; have c9_1 : w4.cell? ⟨w.heap.size, 1, none⟩ = some (.int .i64 ay) := R9_w4.cell 1 rfl; have l9 := R9_w4.lt; have HS4 := Lib.hid hs4; clear hs4 hc4))
            | (go_at_call 38; ((with_reducible refine (on_from g p c C F FM dk n pv v l rx ry ax ay _ HS4.out).mono ?_); rw [HM.out]; rintro E w5 ⟨rfl, hs5⟩; have hc5 := shown_chg hs5; have z5 := hc5.size; have R10_w5 : Row w5 (w.heap.size + 1) #[.int .i64 ox, .int .i64 oy] := R10_w1.chg hc5 (fun hk => by have := HLS.out _ hk; omega); have c10_0 : w5.cell? ⟨w.heap.size + 1, 0, none⟩ = some (.int .i64 ox) := R10_w5.cell 0 rfl; have c10_1 : w5.cell? ⟨w.heap.size + 1, 1, none⟩ = some (.int .i64 oy) := R10_w5.cell 1 rfl; have l10 := R10_w5.lt; have HS5 := Lib.hid hs5; (try (have HS5b := Lib.hid (show Shown w1 g p c C F FM dk n pv v l (T1 n mx mz) (its ++ ri) w5 from hs5))); clear hs5 hc5)))
          go_ret
          refine ⟨?_, Shown.of_up HU1.out (show Shown w1 g p c C F FM dk n pv v l (T1 n (spR C F FM dk (ax, ay) (ox, oy) letter (x, y) bs).2.1.1 (spR C F FM dk (ax, ay) (ox, oy) letter (x, y) bs).2.1.2) (spR C F FM dk (ax, ay) (ox, oy) letter (x, y) bs).2.2 _ from ?_)⟩
          · rw [HEQ.out, HD.out, spR_b (q := (qx, qy)) (a := (ax, ay)) (o := (ox, oy)) (letter := letter) HL.out rfl HM.out HME.out]; rfl
          · rw [HEQ.out, HD.out, spR_b (q := (qx, qy)) (a := (ax, ay)) (o := (ox, oy)) (letter := letter) HL.out rfl HM.out HME.out]; exact (by have h1 := HS5.out; rw [if_neg HME.out] at h1; exact h1)
        · have HME := Lib.hid hme
          subst hme
          by_cases hbl : b = letter
          rotate_left
          · have t3 : (b == letter) = false := by simpa using hbl
            have HBL := Lib.hid hbl
            clear hbl
            go_wp2_with (first
              | (go_at_call 7; ((with_reducible refine (show_from g p c C F FM dk n pv v l qx qy its _ _ 1 [b] rfl HSR.out HFQ.out (ints_one HBG.out HCB.out HWB.out (by omega) (by omega)) (by decide) (by have := HIL.out; omega) hF1 h4 h5 HTR.out).mono ?_); rw [HL.out]; rintro E w4 ⟨rfl, hs4⟩; have hc4 := shown_chg hs4; have z4 := hc4.size; have R9_w4 : Row w4 w.heap.size #[.int .i64 ax, .int .i64 ay] := R9_w1.chg hc4 (fun hk => by have := HLS.out _ hk; omega); have c9_0 : w4.cell? ⟨w.heap.size, 0, none⟩ = some (.int .i64 ax) := R9_w4.cell 0 rfl; have c9_1 : w4.cell? ⟨w.heap.size, 1, none⟩ = some (.int .i64 ay) := R9_w4.cell 1 rfl; have l9 := R9_w4.lt; have HS4 := Lib.hid hs4; clear hs4 hc4))
              | (go_at_call 38; ((with_reducible refine (on_from g p c C F FM dk n pv v l rx ry ax ay _ HS4.out).mono ?_); rw [HM.out]; rintro E w5 ⟨rfl, hs5⟩; have hc5 := shown_chg hs5; have z5 := hc5.size; have R10_w5 : Row w5 (w.heap.size + 1) #[.int .i64 ox, .int .i64 oy] := R10_w1.chg hc5 (fun hk => by have := HLS.out _ hk; omega); have c10_0 : w5.cell? ⟨w.heap.size + 1, 0, none⟩ = some (.int .i64 ox) := R10_w5.cell 0 rfl; have c10_1 : w5.cell? ⟨w.heap.size + 1, 1, none⟩ = some (.int .i64 oy) := R10_w5.cell 1 rfl; have l10 := R10_w5.lt; have HS5 := Lib.hid hs5; (try (have HS5b := Lib.hid (show Shown w1 g p c C F FM dk n pv v l (T1 n mx mz) (its ++ ri) w5 from hs5))); clear hs5 hc5)))
            go_roundw
            case rel => exact ⟨k + 1, mx, mz, its ++ ri, by omega, by go_num, Lib.hid (show Shown w1 g p c C F FM dk n pv v l (T1 n mx mz) (its ++ ri) _ from HS5.out), Lib.hid HF1.out, Lib.hid (by rw [List.length_append]; have h1 := HIL.out; have h2 := HRL.out; omega), Lib.hid (by rw [HEQ.out, HD.out, spR_c (q := (qx, qy)) (a := (ax, ay)) (o := (ox, oy)) (letter := letter) HL.out rfl HM.out rfl HBL.out]; simp only [List.append_assoc])⟩
            case measure => simp [intOf]; omega
          · have t3 : (b == letter) = true := by simpa using hbl
            have HBL := Lib.hid hbl
            clear hbl
            by_cases hke : ke = 0
            rotate_left
            · have t4 : (ke == 0) = false := by simpa using hke
              have HKE := Lib.hid hke
              clear hke
              go_wp2_with (first
                | (go_at_call 7; ((with_reducible refine (show_from g p c C F FM dk n pv v l qx qy its _ _ 1 [b] rfl HSR.out HFQ.out (ints_one HBG.out HCB.out HWB.out (by omega) (by omega)) (by decide) (by have := HIL.out; omega) hF1 h4 h5 HTR.out).mono ?_); rw [HL.out]; rintro E w4 ⟨rfl, hs4⟩; have hc4 := shown_chg hs4; have z4 := hc4.size; have R9_w4 : Row w4 w.heap.size #[.int .i64 ax, .int .i64 ay] := R9_w1.chg hc4 (fun hk => by have := HLS.out _ hk; omega); have c9_0 : w4.cell? ⟨w.heap.size, 0, none⟩ = some (.int .i64 ax) := R9_w4.cell 0 rfl; have c9_1 : w4.cell? ⟨w.heap.size, 1, none⟩ = some (.int .i64 ay) := R9_w4.cell 1 rfl; have l9 := R9_w4.lt; have HS4 := Lib.hid hs4; clear hs4 hc4))
                | (go_at_call 38; ((with_reducible refine (on_from g p c C F FM dk n pv v l rx ry ax ay _ HS4.out).mono ?_); rw [HM.out]; rintro E w5 ⟨rfl, hs5⟩; have hc5 := shown_chg hs5; have z5 := hc5.size; have R10_w5 : Row w5 (w.heap.size + 1) #[.int .i64 ox, .int .i64 oy] := R10_w1.chg hc5 (fun hk => by have := HLS.out _ hk; omega); have c10_0 : w5.cell? ⟨w.heap.size + 1, 0, none⟩ = some (.int .i64 ox) := R10_w5.cell 0 rfl; have c10_1 : w5.cell? ⟨w.heap.size + 1, 1, none⟩ = some (.int .i64 oy) := R10_w5.cell 1 rfl; have l10 := R10_w5.lt; have HS5 := Lib.hid hs5; (try (have HS5b := Lib.hid (show Shown w1 g p c C F FM dk n pv v l (T1 n mx mz) (its ++ ri) w5 from hs5))); clear hs5 hc5))
                | (go_at_call 38; ((with_reducible refine (on_from g p c C F FM dk n pv v l mx mz ox oy _ HS5b.out).mono ?_); rw [HK.out]; rintro E w6 ⟨rfl, hs6⟩; have HS6 := Lib.hid hs6; clear hs6)))
              go_ret
              refine ⟨?_, Shown.of_up HU1.out (show Shown w1 g p c C F FM dk n pv v l (T1 n (spR C F FM dk (ax, ay) (ox, oy) letter (x, y) bs).2.1.1 (spR C F FM dk (ax, ay) (ox, oy) letter (x, y) bs).2.1.2) (spR C F FM dk (ax, ay) (ox, oy) letter (x, y) bs).2.2 _ from ?_)⟩
              · rw [HEQ.out, HD.out, spR_d (q := (qx, qy)) (a := (ax, ay)) (o := (ox, oy)) (letter := letter) HL.out rfl HM.out rfl HBL.out HK.out HKE.out]; rfl
              · rw [HEQ.out, HD.out, spR_d (q := (qx, qy)) (a := (ax, ay)) (o := (ox, oy)) (letter := letter) HL.out rfl HM.out rfl HBL.out HK.out HKE.out]; exact (by have h1 := HS6.out; rw [if_neg HKE.out] at h1; exact h1)
            · have HKE := Lib.hid hke
              subst hke
              go_wp2_with (first
                | (go_at_call 7; ((with_reducible refine (show_from g p c C F FM dk n pv v l qx qy its _ _ 1 [b] rfl HSR.out HFQ.out (ints_one HBG.out HCB.out HWB.out (by omega) (by omega)) (by decide) (by have := HIL.out; omega) hF1 h4 h5 HTR.out).mono ?_); rw [HL.out]; rintro E w4 ⟨rfl, hs4⟩; have hc4 := shown_chg hs4; have z4 := hc4.size; have R9_w4 : Row w4 w.heap.size #[.int .i64 ax, .int .i64 ay] := R9_w1.chg hc4 (fun hk => by have := HLS.out _ hk; omega); have c9_0 : w4.cell? ⟨w.heap.size, 0, none⟩ = some (.int .i64 ax) := R9_w4.cell 0 rfl; have c9_1 : w4.cell? ⟨w.heap.size, 1, none⟩ = some (.int .i64 ay) := R9_w4.cell 1 rfl; have l9 := R9_w4.lt; have HS4 := Lib.hid hs4; clear hs4 hc4))
                | (go_at_call 38; ((with_reducible refine (on_from g p c C F FM dk n pv v l rx ry ax ay _ HS4.out).mono ?_); rw [HM.out]; rintro E w5 ⟨rfl, hs5⟩; have hc5 := shown_chg hs5; have z5 := hc5.size; have R10_w5 : Row w5 (w.heap.size + 1) #[.int .i64 ox, .int .i64 oy] := R10_w1.chg hc5 (fun hk => by have := HLS.out _ hk; omega); have c10_0 : w5.cell? ⟨w.heap.size + 1, 0, none⟩ = some (.int .i64 ox) := R10_w5.cell 0 rfl; have c10_1 : w5.cell? ⟨w.heap.size + 1, 1, none⟩ = some (.int .i64 oy) := R10_w5.cell 1 rfl; have l10 := R10_w5.lt; have HS5 := Lib.hid hs5; (try (have HS5b := Lib.hid (show Shown w1 g p c C F FM dk n pv v l (T1 n mx mz) (its ++ ri) w5 from hs5))); clear hs5 hc5))
                | (go_at_call 38; ((with_reducible refine (on_from g p c C F FM dk n pv v l mx mz ox oy _ HS5b.out).mono ?_); rw [HK.out]; rintro E w6 ⟨rfl, hs6⟩; have HS6 := Lib.hid hs6; clear hs6)))
              go_roundw
              case rel => exact ⟨k + 1, kx, kz, its ++ ri, by omega, by go_num, Lib.hid (show Shown w1 g p c C F FM dk n pv v l (T1 n kx kz) (its ++ ri) _ from HS6.out), Lib.hid HF2.out, Lib.hid (by rw [List.length_append]; have h1 := HIL.out; have h2 := HRL.out; omega), Lib.hid (by rw [HEQ.out, HD.out, spR_e (q := (qx, qy)) (a := (ax, ay)) (o := (ox, oy)) (letter := letter) HL.out rfl HM.out rfl HBL.out HK.out rfl]; simp only [List.append_assoc])⟩
              case measure => simp [intOf]; omega
    · obtain rfl : k = N := by omega
      have HD0 := Lib.hid (show bs.drop k = [] from List.drop_eq_nil_of_le (by have := HN.out; omega))
      go_wp2
      go_ret
      refine ⟨?_, Shown.of_up HU1.out (show Shown w1 g p c C F FM dk n pv v l (T1 n (spR C F FM dk (ax, ay) (ox, oy) letter (x, y) bs).2.1.1 (spR C F FM dk (ax, ay) (ox, oy) letter (x, y) bs).2.1.2) (spR C F FM dk (ax, ay) (ox, oy) letter (x, y) bs).2.2 _ from ?_)⟩
      · rw [HEQ.out, HD0.out]; rfl
      · rw [HEQ.out, HD0.out]
        show Shown w1 g p c C F FM dk n pv v l (T1 n qx qy) (its ++ []) _
        rw [List.append_nil]
        exact HSR.out

end Go.Proofs.YtjdbefpfjhdmoaaGreatDoor.Sh
end

section
namespace Go.Proofs.YtjdbefpfjhdmoaaGreatDoor.Sh
open Go.Proofs.YtjdbefpfjhdmoaaGreatDoor.ZGH
open Go.ChangeShapes Go.WideShapes Go.ChangeAt Go.RowKit
open Go.Proofs.YtjdbefpfjhdmoaaGreatDoor.Gs
open Go.Proofs.YtjdbefpfjhdmoaaGreatDoor.MatM (M6)
open Go.Proofs.YtjdbefpfjhdmoaaGreatDoor.PathM
set_option linter.unusedVariables false
set_option linter.unusedSimpArgs false

set_option maxRecDepth 8000 in
set_option maxHeartbeats 2000000 in
theorem spaced_stop (g p c : Nat) (C : M6) (F : Int) (FM : M6) (dk : Bool) (n : Int) (pv v : Value) (T : St) (l : List Cl) (x y e ax ay ox oy letter : Int) (vb : Value) (w : World) (h : Prg w g p c C F FM dk n pv v T l) (hR : placeR F T = ((x, y), e)) (he : e ≠ 0) :
    Calls Tryz.prog 10 #[.pointer (some ⟨c, 0, none⟩), .pointer (some ⟨g, 0, none⟩), vb, .agg #[.int .i64 ax, .int .i64 ay], .agg #[.int .i64 ox, .int .i64 oy], .int .i64 letter] w fun E w' => E = .returned (.int .i64 e) ∧ Up w w' := by
  have HH := Lib.hid h
  have HR := Lib.hid hR
  have t0 : (e == 0) = false := by simpa using he
  clear h hR he
  go_enter Tryz.func10, Tryz.ntmps10
  go_wp2_with (first
    | (go_at_call 23; ((with_reducible refine (ready_calls g C 65536 0 F FM dk p 2 n pv _ _ (HH.out.up (show Up w _ by exact ua)).rg (HH.out.up (show Up w _ by exact ua)).pa).mono ?_); rw [HR.out]; rintro E w1 ⟨⟨gc, hg1, rfl⟩, hu1⟩; have z1 := hu1.size; (try simp at z1); have R9_w1 : Row w1 w.heap.size #[.int .i64 ax, .int .i64 ay] := Row.up (show Row _ w.heap.size #[.int .i64 ax, .int .i64 ay] by exact ra) hu1; have R10_w1 : Row w1 (w.heap.size + 1) #[.int .i64 ox, .int .i64 oy] := Row.up (show Row _ (w.heap.size + 1) #[.int .i64 ox, .int .i64 oy] by exact ra) hu1; have HU1 := Lib.hid (show Up w w1 by exact ua)))
    | ((refine at_op (.store 73 (.tmp 13) _) rfl ?_); (refine wpList_store_Row rfl 73 (.tmp 13) _ rfl w1.heap.size #[.int .i64 C.a, .int .i64 C.b, .int .i64 C.c, .int .i64 C.d, .int .i64 C.x, .int .i64 C.y, .int .i64 1, .int .i64 0, .int .i64 0, .int .i64 0, .int .i64 0, .int .i64 65536, .int .i64 0, .int .i64 0, .int .i64 655360, .slice none 0 0, .int .i64 0, .int .i64 F, .int .i64 FM.a, .int .i64 FM.b, .int .i64 FM.c, .int .i64 FM.d, .int .i64 FM.x, .int .i64 FM.y, .slice (some ⟨gc, 0, none⟩) 0 0, .bool dk] rfl rfl #[.int .i64 0, .int .i64 0, .int .i64 0, .int .i64 0, .int .i64 0, .int .i64 0, .int .i64 0, .int .i64 0, .int .i64 0, .int .i64 0, .int .i64 0, .int .i64 0, .int .i64 0, .int .i64 0, .int .i64 0, .slice none 0 0, .int .i64 0, .int .i64 0, .int .i64 0, .int .i64 0, .int .i64 0, .int .i64 0, .int .i64 0, .int .i64 0, .slice none 0 0, .bool false] (by exact ra) infoSt rfl rfl (by simp [Value.oneCell']) ?_); intro w2 hr2 hc2; have z2 := hc2.size; (try simp at z2); have RP2 : Row w2 (w1.heap.size + 1) #[.int .i64 0, .int .i64 0] := (by exact ra); have lp2 := RP2.lt; have p2_0 : w2.cell? ⟨w1.heap.size + 1, 0, none⟩ = some (.int .i64 0) := RP2.cell 0 rfl; have p2_1 : w2.cell? ⟨w1.heap.size + 1, 1, none⟩ = some (.int .i64 0) := RP2.cell 1 rfl; have pf2_0 := RP2.free 0; have pf2_1 := RP2.free 1))
  go_ret
  exact ⟨rfl, (show Chg [] w _ by (repeat' (first | (with_reducible first | exact Chg.refl _ _ | assumption | refine Chg.alloc ?_ _ | refine Chg.drew ?_ | refine Chg.drewN ?_ _ | refine Chg.setCell ?_ ?_ _ | refine Chg.upc ?_ (by assumption) | refine Chg.call ?_ (by assumption) ?_) | (refine Or.inl ?_; (simp; done)) | (simp; done) | (simp; omega) | omega))).up⟩

end Go.Proofs.YtjdbefpfjhdmoaaGreatDoor.Sh
end

section
namespace Go.Proofs.YtjdbefpfjhdmoaaGreatDoor.Sh
open Go.ChangeShapes Go.WideShapes Go.ChangeAt Go.RowKit
open Go.Proofs.YtjdbefpfjhdmoaaGreatDoor.Gs
open Go.Proofs.YtjdbefpfjhdmoaaGreatDoor.FixM (fits)
open Go.Proofs.YtjdbefpfjhdmoaaGreatDoor.MatM (M6)
open Go.Proofs.YtjdbefpfjhdmoaaGreatDoor.PathM
set_option linter.unusedVariables false
set_option linter.unusedSimpArgs false

/-- what Spaced does -/
def spO (C : M6) (F : Int) (FM : M6) (dk : Bool) (a o : Int × Int) (letter : Int) (q : Option (Int × Int)) (bs : List Int) : Int × Option (Int × Int) × List It :=
  match q with
  | none => (if F < 0 then 7 else 10, none, [])
  | some q => if F < 0 then (7, some q, []) else ((spR C F FM dk a o letter q bs).1, some (spR C F FM dk a o letter q bs).2.1, (spR C F FM dk a o letter q bs).2.2)
theorem spaced_any (w0 w : World) (g p c s m : Nat) (C : M6) (F : Int) (FM : M6) (dk : Bool) (n : Int) (pv v vl rv : Value) (q : Option (Int × Int)) (U : St) (l1 l2 : List Cl) (ax ay ox oy letter : Int) (h : Two w0 w g p c s m C F FM dk n pv v vl rv (TO n q) U l1 l2) (hq : fitsO q)
    (ba : Option Addr) (bc N : Nat) (bs : List Int) (hN : bs.length = N) (hv : Ints .u8 w (.slice ba N bc) bs) (hl : N ≤ 300) (hln : l1.length ≤ 100) (hF1 : F < 14) (h4 : (Lit.int .i64 C.x).wf = true) (h5 : (Lit.int .i64 C.y).wf = true) (hT : Font.Tab w0)
    (hbo : 0 < N → ∀ b ∈ own (.slice ba N bc), b ∉ p :: c :: (own pv ++ own v)) :
    Calls Tryz.prog 10 #[.pointer (some ⟨c, 0, none⟩), .pointer (some ⟨g, 0, none⟩), .slice ba N bc, .agg #[.int .i64 ax, .int .i64 ay], .agg #[.int .i64 ox, .int .i64 oy], .int .i64 letter] w fun E w' =>
      E = .returned (.int .i64 (spO C F FM dk (ax, ay) (ox, oy) letter q bs).1) ∧ ∃ pv' v' l1', Two w0 w' g p c s m C F FM dk n pv' v' vl rv (TO n (spO C F FM dk (ax, ay) (ox, oy) letter q bs).2.1) U l1' l2 ∧ l1'.map (·.it) = l1.map (·.it) ++ (spO C F FM dk (ax, ay) (ox, oy) letter q bs).2.2 := by
  have hTT : ∀ w', Chg (p :: c :: (own pv ++ own v)) w w' → Font.Tab w' := fun w' hc => hT.up (((Chg.of_up (S := []) h.up).call hc (fun k hk => Or.inr (by
    refine h.new k ?_
    simp only [List.mem_cons] at hk ⊢
    rcases hk with h1 | h1 | h1
    · exact Or.inr (Or.inl h1)
    · exact Or.inr (Or.inr (Or.inl h1))
    · exact Or.inr (Or.inr (Or.inr (Or.inr (Or.inr h1))))))).up)
  cases q with
  | none =>
    have hR : placeR F (TO n none) = ((0, 0), if F < 0 then 7 else 10) := by
      unfold placeR
      by_cases hF : F < 0
      · rw [if_pos hF, if_pos hF]
      · rw [if_neg hF, if_neg hF]; rfl
    refine (spaced_stop g p c C F FM dk n pv v _ l1 0 0 _ ax ay ox oy letter _ w h.prg hR (by split <;> decide)).mono ?_
    rintro E w' ⟨rfl, hu⟩
    exact ⟨rfl, pv, v, l1, h.chg hu, by simp [spO]⟩
  | some q =>
    by_cases hF : F < 0
    · refine (spaced_stop g p c C F FM dk n pv v _ l1 0 0 7 ax ay ox oy letter _ w h.prg (by unfold placeR; rw [if_pos hF]) (by decide)).mono ?_
      rintro E w' ⟨rfl, hu⟩
      have e : spO C F FM dk (ax, ay) (ox, oy) letter (some q) bs = (7, some q, []) := by unfold spO; simp only; rw [if_pos hF]
      rw [e]
      exact ⟨rfl, pv, v, l1, h.chg hu, by simp⟩
    · have e : spO C F FM dk (ax, ay) (ox, oy) letter (some q) bs = ((spR C F FM dk (ax, ay) (ox, oy) letter q bs).1, some (spR C F FM dk (ax, ay) (ox, oy) letter q bs).2.1, (spR C F FM dk (ax, ay) (ox, oy) letter q bs).2.2) := by unfold spO; simp only; rw [if_neg hF]
      rw [e]
      refine (spaced_calls g p c C F FM dk n pv v l1 q.1 q.2 ax ay ox oy letter ba bc N bs hN w h.prg hq hv hl hln hF hF1 h4 h5 hTT hbo).mono ?_
      rintro E w' ⟨rfl, hs⟩
      exact ⟨rfl, h.shown hs⟩

end Go.Proofs.YtjdbefpfjhdmoaaGreatDoor.Sh
end
