/- show.moved: a place, and a distance as it is led. No condition. show.ready: the state that is, and the place. No condition. bytes.Clone of any bytes. No condition but a length that an append bears. show.item: the letters at a place. Its condition: the matrix that is fits where it moves. What package paint says of the colour, the pen and the clips of letters shown in a state as 'open' sets it. No condition. paint.letters of an item with a font. Its condition: the fonts' names lie as they are laid. paint.item of letters with a font. Its condition: the fonts' names lie as they are laid. -/
import Derived.Test.YtjdbefpfjhdmoaaDoorGJ
import Derived.Test.YtjdbefpfjhdmoaaDoorMat2
import Derived.Test.YtjdbefpfjhdmoaaDoorArr
import Derived.LoopN
namespace Go.Proofs.YtjdbefpfjhdmoaaDoor.ZGA
open Go.ChangeShapes Go.WideShapes Go.ChangeAt Go.RowKit
theorem ra {w : World} {b : Nat} {cs : Array Value} (h : Row w b cs := by (repeat' (with_reducible first | assumption | (refine Row.at _ _ ?_; (simp; done)) | refine Row.alloc ?_ _ | refine Row.drew ?_ | refine Row.drewN ?_ _ | refine Row.other ?_ (by first | (simp; done) | (simp; omega) | omega) _ | refine Row.up ?_ (by assumption) | refine Row.chg ?_ (by assumption) (by first | (simp; done) | (simp; omega))))) : Row w b cs := h
theorem ua {w v : World} (h : Up w v := by (repeat' (first | (with_reducible first | exact Up.refl _ | assumption | refine Up.alloc ?_ _ | refine Up.drew ?_ | refine Up.drewN ?_ _ | refine Up.setCell ?_ ?_ _ | refine Up.call ?_ (by assumption)) | go_size))) : Up w v := h
theorem ro {w : World} {b : Nat} {cs : Array Value} (h : Row w b cs := by apply cast; (case h => (repeat (first | (with_reducible first | assumption | (apply Row.at; (simp; done)) | apply Row.alloc | apply Row.drew | apply Row.drewN | apply Row.set) | ((with_reducible apply Row.other); (case hp => first | (simp; done) | (simp; omega) | omega))))); (case e => rfl)) : Row w b cs := h
end Go.Proofs.YtjdbefpfjhdmoaaDoor.ZGA
section
namespace Go.Proofs.YtjdbefpfjhdmoaaDoor.Sh
open Go.Proofs.YtjdbefpfjhdmoaaDoor.ZGA
open Go.ChangeShapes Go.WideShapes Go.ChangeAt Go.RowKit
open Go.Proofs.YtjdbefpfjhdmoaaDoor.Gs
open Go.Proofs.YtjdbefpfjhdmoaaDoor.FixM (fits add)
open Go.Proofs.YtjdbefpfjhdmoaaDoor.MatM (M6 delta)
set_option linter.unusedVariables false
set_option linter.unusedSimpArgs false

/-- where one is then -/
def movedR (c : M6) (ax ay bx bz : Int) : (Int × Int) × Int :=
  if (delta c.a c.b c.c c.d bx bz).2 = 0 then
    if (add ax (delta c.a c.b c.c c.d bx bz).1.1).2 = 0 then
      if (add ay (delta c.a c.b c.c c.d bx bz).1.2).2 = 0 then (((add ax (delta c.a c.b c.c c.d bx bz).1.1).1, (add ay (delta c.a c.b c.c c.d bx bz).1.2).1), 0)
      else ((0, 0), (add ay (delta c.a c.b c.c c.d bx bz).1.2).2)
    else ((0, 0), (add ax (delta c.a c.b c.c c.d bx bz).1.1).2)
  else ((0, 0), (delta c.a c.b c.c c.d bx bz).2)
theorem results_ptij {fn : Func} {i j : Nat} (h : fn.results = #[.cell i 24, .tmp j]) (tmps : Array Value) (w : World) (b : Nat) (x y e : Int) (hr : Row w b #[.int .i64 x, .int .i64 y]) (e4 : tmps.getD i undef = .pointer (some ⟨b, 0, none⟩)) (e5 : tmps.getD j undef = .int .i64 e) :
    (results fn tmps).run Tryd.prog w = .ok (.tuple #[.agg #[.int .i64 x, .int .i64 y], .int .i64 e]) w := by
  rw [Array.getD_eq_getD_getElem?] at e4 e5
  have c0 : w.cell? ⟨b, 0, none⟩ = some (.int .i64 x) := hr.cell 0 rfl
  have c1 : w.cell? ⟨b, 1, none⟩ = some (.int .i64 y) := hr.cell 1 rfl
  simp [results, h, go_sem, e4, e5, c0, c1]

set_option maxRecDepth 8000 in
set_option maxHeartbeats 2000000 in
theorem moved_calls (c : M6) (wd ph fn : Int) (fm : M6) (clips : Value) (dk : Bool) (ax ay bx bz : Int) (w : World) :
    Calls Tryd.prog 34 #[.agg #[.int .i64 c.a, .int .i64 c.b, .int .i64 c.c, .int .i64 c.d, .int .i64 c.x, .int .i64 c.y, .int .i64 1, .int .i64 0, .int .i64 0, .int .i64 0, .int .i64 0, .int .i64 wd, .int .i64 0, .int .i64 0, .int .i64 655360, .slice none 0 0, .int .i64 ph, .int .i64 fn, .int .i64 fm.a, .int .i64 fm.b, .int .i64 fm.c, .int .i64 fm.d, .int .i64 fm.x, .int .i64 fm.y, clips, .bool dk], .agg #[.int .i64 ax, .int .i64 ay], .agg #[.int .i64 bx, .int .i64 bz]] w fun E w' => E = ptE (movedR c ax ay bx bz) ∧ Up w w' := by
  have hE : movedR c ax ay bx bz = movedR c ax ay bx bz := rfl
  conv at hE => rhs; unfold movedR
  obtain ⟨⟨⟨dx, dz⟩, de⟩, hD⟩ : ∃ D, delta c.a c.b c.c c.d bx bz = D := ⟨_, rfl⟩
  rw [hD] at hE
  obtain ⟨⟨xx, xe⟩, hX⟩ : ∃ X, add ax dx = X := ⟨_, rfl⟩
  obtain ⟨⟨yy, ye⟩, hY⟩ : ∃ Y, add ay dz = Y := ⟨_, rfl⟩
  simp only [hX, hY] at hE
  have HD := Lib.hid hD
  have HX := Lib.hid hX
  have HY := Lib.hid hY
  clear hD hX hY
  by_cases h1 : de = 0
  · rw [if_pos h1] at hE
    by_cases h2 : xe = 0
    · rw [if_pos h2] at hE
      by_cases h3 : ye = 0
      · rw [if_pos h3] at hE
        subst h1 h2 h3
        have HE := Lib.hid hE
        clear hE
        go_enter Tryd.func34, Tryd.ntmps34
        go_wp2_with (first
          | (go_at_call 55; ((with_reducible refine (Mat.delta_calls c.a c.b c.c c.d c.x c.y bx bz _).mono ?_); rw [HD.out]; rintro E w1 ⟨rfl, hu1⟩; have z1 := hu1.size; (try simp at z1); have RAw1 : Row w1 (w.heap.size + 1) #[.int .i64 ax, .int .i64 ay] := Row.up (show Row _ (w.heap.size + 1) #[.int .i64 ax, .int .i64 ay] by exact ra) hu1; have RPw1 : Row w1 (w.heap.size + 1 + 1 + 1) #[.int .i64 0, .int .i64 0] := Row.up (show Row _ (w.heap.size + 1 + 1 + 1) #[.int .i64 0, .int .i64 0] by exact ra) hu1; have aw1_0 : w1.cell? ⟨w.heap.size + 1, 0, none⟩ = some (.int .i64 ax) := RAw1.cell 0 rfl; have pw1_0 : w1.cell? ⟨w.heap.size + 1 + 1 + 1, 0, none⟩ = some (.int .i64 0) := RPw1.cell 0 rfl; have pfw1_0 := RPw1.free 0; have aw1_1 : w1.cell? ⟨w.heap.size + 1, 1, none⟩ = some (.int .i64 ay) := RAw1.cell 1 rfl; have pw1_1 : w1.cell? ⟨w.heap.size + 1 + 1 + 1, 1, none⟩ = some (.int .i64 0) := RPw1.cell 1 rfl; have pfw1_1 := RPw1.free 1; have law1 := RAw1.lt; have lpw1 := RPw1.lt))
          | (go_at_call 60; ((with_reducible refine (Fix.add_calls ax dx _).mono ?_); rw [HX.out]; rintro E w2 ⟨rfl, hu2⟩; have z2 := hu2.size; (try simp at z2); have RAw2 : Row w2 (w.heap.size + 1) #[.int .i64 ax, .int .i64 ay] := Row.up (show Row _ (w.heap.size + 1) #[.int .i64 ax, .int .i64 ay] by exact ra) hu2; have RPw2 : Row w2 (w.heap.size + 1 + 1 + 1) #[.int .i64 0, .int .i64 0] := Row.up (show Row _ (w.heap.size + 1 + 1 + 1) #[.int .i64 0, .int .i64 0] by exact ra) hu2; have aw2_0 : w2.cell? ⟨w.heap.size + 1, 0, none⟩ = some (.int .i64 ax) := RAw2.cell 0 rfl; have pw2_0 : w2.cell? ⟨w.heap.size + 1 + 1 + 1, 0, none⟩ = some (.int .i64 0) := RPw2.cell 0 rfl; have pfw2_0 := RPw2.free 0; have aw2_1 : w2.cell? ⟨w.heap.size + 1, 1, none⟩ = some (.int .i64 ay) := RAw2.cell 1 rfl; have pw2_1 : w2.cell? ⟨w.heap.size + 1 + 1 + 1, 1, none⟩ = some (.int .i64 0) := RPw2.cell 1 rfl; have pfw2_1 := RPw2.free 1; have law2 := RAw2.lt; have lpw2 := RPw2.lt; have RDw2 : Row w2 w1.heap.size #[.int .i64 dx, .int .i64 dz] := Row.up (show Row _ w1.heap.size #[.int .i64 dx, .int .i64 dz] by exact ra) hu2; have dw2_0 : w2.cell? ⟨w1.heap.size, 0, none⟩ = some (.int .i64 dx) := RDw2.cell 0 rfl; have dw2_1 : w2.cell? ⟨w1.heap.size, 1, none⟩ = some (.int .i64 dz) := RDw2.cell 1 rfl))
          | (go_at_call 60; ((with_reducible refine (Fix.add_calls ay dz _).mono ?_); rw [HY.out]; rintro E w3 ⟨rfl, hu3⟩; have z3 := hu3.size; (try simp at z3); have RAw3 : Row w3 (w.heap.size + 1) #[.int .i64 ax, .int .i64 ay] := Row.up (show Row _ (w.heap.size + 1) #[.int .i64 ax, .int .i64 ay] by exact ra) hu3; have RPw3 : Row w3 (w.heap.size + 1 + 1 + 1) #[.int .i64 0, .int .i64 0] := Row.up (show Row _ (w.heap.size + 1 + 1 + 1) #[.int .i64 0, .int .i64 0] by exact ra) hu3; have aw3_0 : w3.cell? ⟨w.heap.size + 1, 0, none⟩ = some (.int .i64 ax) := RAw3.cell 0 rfl; have pw3_0 : w3.cell? ⟨w.heap.size + 1 + 1 + 1, 0, none⟩ = some (.int .i64 0) := RPw3.cell 0 rfl; have pfw3_0 := RPw3.free 0; have aw3_1 : w3.cell? ⟨w.heap.size + 1, 1, none⟩ = some (.int .i64 ay) := RAw3.cell 1 rfl; have pw3_1 : w3.cell? ⟨w.heap.size + 1 + 1 + 1, 1, none⟩ = some (.int .i64 0) := RPw3.cell 1 rfl; have pfw3_1 := RPw3.free 1; have law3 := RAw3.lt; have lpw3 := RPw3.lt)))
        (try simp only [Exit.inBlock, Exit.then])
        refine bodyPost_ret (results_ptij rfl _ _ (w.heap.size + 1 + 1 + 1) xx yy 0 (show Row _ (w.heap.size + 1 + 1 + 1) #[.int .i64 xx, .int .i64 yy] from (by exact ro)) rfl rfl) rfl ?_
        exact ⟨by rw [HE.out], (show Chg [] w _ by (repeat' (first | (with_reducible first | exact Chg.refl _ _ | assumption | refine Chg.alloc ?_ _ | refine Chg.drew ?_ | refine Chg.drewN ?_ _ | refine Chg.setCell ?_ ?_ _ | refine Chg.upc ?_ (by assumption) | refine Chg.call ?_ (by assumption) ?_) | (refine Or.inl ?_; (simp; done)) | (simp; done) | (simp; omega) | omega))).up⟩
      · rw [if_neg h3] at hE
        subst h1 h2
        have HE := Lib.hid hE
        have t3 : (ye == 0) = false := by simpa using h3
        clear hE h3
        go_enter Tryd.func34, Tryd.ntmps34
        go_wp2_with (first
          | (go_at_call 55; ((with_reducible refine (Mat.delta_calls c.a c.b c.c c.d c.x c.y bx bz _).mono ?_); rw [HD.out]; rintro E w1 ⟨rfl, hu1⟩; have z1 := hu1.size; (try simp at z1); have RAw1 : Row w1 (w.heap.size + 1) #[.int .i64 ax, .int .i64 ay] := Row.up (show Row _ (w.heap.size + 1) #[.int .i64 ax, .int .i64 ay] by exact ra) hu1; have RPw1 : Row w1 (w.heap.size + 1 + 1 + 1) #[.int .i64 0, .int .i64 0] := Row.up (show Row _ (w.heap.size + 1 + 1 + 1) #[.int .i64 0, .int .i64 0] by exact ra) hu1; have aw1_0 : w1.cell? ⟨w.heap.size + 1, 0, none⟩ = some (.int .i64 ax) := RAw1.cell 0 rfl; have pw1_0 : w1.cell? ⟨w.heap.size + 1 + 1 + 1, 0, none⟩ = some (.int .i64 0) := RPw1.cell 0 rfl; have pfw1_0 := RPw1.free 0; have aw1_1 : w1.cell? ⟨w.heap.size + 1, 1, none⟩ = some (.int .i64 ay) := RAw1.cell 1 rfl; have pw1_1 : w1.cell? ⟨w.heap.size + 1 + 1 + 1, 1, none⟩ = some (.int .i64 0) := RPw1.cell 1 rfl; have pfw1_1 := RPw1.free 1; have law1 := RAw1.lt; have lpw1 := RPw1.lt))
          | (go_at_call 60; ((with_reducible refine (Fix.add_calls ax dx _).mono ?_); rw [HX.out]; rintro E w2 ⟨rfl, hu2⟩; have z2 := hu2.size; (try simp at z2); have RAw2 : Row w2 (w.heap.size + 1) #[.int .i64 ax, .int .i64 ay] := Row.up (show Row _ (w.heap.size + 1) #[.int .i64 ax, .int .i64 ay] by exact ra) hu2; have RPw2 : Row w2 (w.heap.size + 1 + 1 + 1) #[.int .i64 0, .int .i64 0] := Row.up (show Row _ (w.heap.size + 1 + 1 + 1) #[.int .i64 0, .int .i64 0] by exact ra) hu2; have aw2_0 : w2.cell? ⟨w.heap.size + 1, 0, none⟩ = some (.int .i64 ax) := RAw2.cell 0 rfl; have pw2_0 : w2.cell? ⟨w.heap.size + 1 + 1 + 1, 0, none⟩ = some (.int .i64 0) := RPw2.cell 0 rfl; have pfw2_0 := RPw2.free 0; have aw2_1 : w2.cell? ⟨w.heap.size + 1, 1, none⟩ = some (.int .i64 ay) := RAw2.cell 1 rfl; have pw2_1 : w2.cell? ⟨w.heap.size + 1 + 1 + 1, 1, none⟩ = some (.int .i64 0) := RPw2.cell 1 rfl; have pfw2_1 := RPw2.free 1; have law2 := RAw2.lt; have lpw2 := RPw2.lt; have RDw2 : Row w2 w1.heap.size #[.int .i64 dx, .int .i64 dz] := Row.up (show Row _ w1.heap.size #[.int .i64 dx, .int .i64 dz] by exact ra) hu2; have dw2_0 : w2.cell? ⟨w1.heap.size, 0, none⟩ = some (.int .i64 dx) := RDw2.cell 0 rfl; have dw2_1 : w2.cell? ⟨w1.heap.size, 1, none⟩ = some (.int .i64 dz) := RDw2.cell 1 rfl))
          | (go_at_call 60; ((with_reducible refine (Fix.add_calls ay dz _).mono ?_); rw [HY.out]; rintro E w3 ⟨rfl, hu3⟩; have z3 := hu3.size; (try simp at z3); have RAw3 : Row w3 (w.heap.size + 1) #[.int .i64 ax, .int .i64 ay] := Row.up (show Row _ (w.heap.size + 1) #[.int .i64 ax, .int .i64 ay] by exact ra) hu3; have RPw3 : Row w3 (w.heap.size + 1 + 1 + 1) #[.int .i64 0, .int .i64 0] := Row.up (show Row _ (w.heap.size + 1 + 1 + 1) #[.int .i64 0, .int .i64 0] by exact ra) hu3; have aw3_0 : w3.cell? ⟨w.heap.size + 1, 0, none⟩ = some (.int .i64 ax) := RAw3.cell 0 rfl; have pw3_0 : w3.cell? ⟨w.heap.size + 1 + 1 + 1, 0, none⟩ = some (.int .i64 0) := RPw3.cell 0 rfl; have pfw3_0 := RPw3.free 0; have aw3_1 : w3.cell? ⟨w.heap.size + 1, 1, none⟩ = some (.int .i64 ay) := RAw3.cell 1 rfl; have pw3_1 : w3.cell? ⟨w.heap.size + 1 + 1 + 1, 1, none⟩ = some (.int .i64 0) := RPw3.cell 1 rfl; have pfw3_1 := RPw3.free 1; have law3 := RAw3.lt; have lpw3 := RPw3.lt)))
        (try simp only [Exit.inBlock, Exit.then])
        refine bodyPost_ret (results_ptij rfl _ _ (w.heap.size + 1 + 1 + 1) 0 0 ye (show Row _ (w.heap.size + 1 + 1 + 1) #[.int .i64 0, .int .i64 0] from (by exact ro)) rfl rfl) rfl ?_
        exact ⟨by rw [HE.out], (show Chg [] w _ by (repeat' (first | (with_reducible first | exact Chg.refl _ _ | assumption | refine Chg.alloc ?_ _ | refine Chg.drew ?_ | refine Chg.drewN ?_ _ | refine Chg.setCell ?_ ?_ _ | refine Chg.upc ?_ (by assumption) | refine Chg.call ?_ (by assumption) ?_) | (refine Or.inl ?_; (simp; done)) | (simp; done) | (simp; omega) | omega))).up⟩
    · rw [if_neg h2] at hE
      subst h1
      have HE := Lib.hid hE
      have t2 : (xe == 0) = false := by simpa using h2
      clear hE h2
      go_enter Tryd.func34, Tryd.ntmps34
      go_wp2_with (first
        | (go_at_call 55; ((with_reducible refine (Mat.delta_calls c.a c.b c.c c.d c.x c.y bx bz _).mono ?_); rw [HD.out]; rintro E w1 ⟨rfl, hu1⟩; have z1 := hu1.size; (try simp at z1); have RAw1 : Row w1 (w.heap.size + 1) #[.int .i64 ax, .int .i64 ay] := Row.up (show Row _ (w.heap.size + 1) #[.int .i64 ax, .int .i64 ay] by exact ra) hu1; have RPw1 : Row w1 (w.heap.size + 1 + 1 + 1) #[.int .i64 0, .int .i64 0] := Row.up (show Row _ (w.heap.size + 1 + 1 + 1) #[.int .i64 0, .int .i64 0] by exact ra) hu1; have aw1_0 : w1.cell? ⟨w.heap.size + 1, 0, none⟩ = some (.int .i64 ax) := RAw1.cell 0 rfl; have pw1_0 : w1.cell? ⟨w.heap.size + 1 + 1 + 1, 0, none⟩ = some (.int .i64 0) := RPw1.cell 0 rfl; have pfw1_0 := RPw1.free 0; have aw1_1 : w1.cell? ⟨w.heap.size + 1, 1, none⟩ = some (.int .i64 ay) := RAw1.cell 1 rfl; have pw1_1 : w1.cell? ⟨w.heap.size + 1 + 1 + 1, 1, none⟩ = some (.int .i64 0) := RPw1.cell 1 rfl; have pfw1_1 := RPw1.free 1; have law1 := RAw1.lt; have lpw1 := RPw1.lt))
        | (go_at_call 60; ((with_reducible refine (Fix.add_calls ax dx _).mono ?_); rw [HX.out]; rintro E w2 ⟨rfl, hu2⟩; have z2 := hu2.size; (try simp at z2); have RAw2 : Row w2 (w.heap.size + 1) #[.int .i64 ax, .int .i64 ay] := Row.up (show Row _ (w.heap.size + 1) #[.int .i64 ax, .int .i64 ay] by exact ra) hu2; have RPw2 : Row w2 (w.heap.size + 1 + 1 + 1) #[.int .i64 0, .int .i64 0] := Row.up (show Row _ (w.heap.size + 1 + 1 + 1) #[.int .i64 0, .int .i64 0] by exact ra) hu2; have aw2_0 : w2.cell? ⟨w.heap.size + 1, 0, none⟩ = some (.int .i64 ax) := RAw2.cell 0 rfl; have pw2_0 : w2.cell? ⟨w.heap.size + 1 + 1 + 1, 0, none⟩ = some (.int .i64 0) := RPw2.cell 0 rfl; have pfw2_0 := RPw2.free 0; have aw2_1 : w2.cell? ⟨w.heap.size + 1, 1, none⟩ = some (.int .i64 ay) := RAw2.cell 1 rfl; have pw2_1 : w2.cell? ⟨w.heap.size + 1 + 1 + 1, 1, none⟩ = some (.int .i64 0) := RPw2.cell 1 rfl; have pfw2_1 := RPw2.free 1; have law2 := RAw2.lt; have lpw2 := RPw2.lt; have RDw2 : Row w2 w1.heap.size #[.int .i64 dx, .int .i64 dz] := Row.up (show Row _ w1.heap.size #[.int .i64 dx, .int .i64 dz] by exact ra) hu2; have dw2_0 : w2.cell? ⟨w1.heap.size, 0, none⟩ = some (.int .i64 dx) := RDw2.cell 0 rfl; have dw2_1 : w2.cell? ⟨w1.heap.size, 1, none⟩ = some (.int .i64 dz) := RDw2.cell 1 rfl)))
      (try simp only [Exit.inBlock, Exit.then])
      refine bodyPost_ret (results_ptij rfl _ _ (w.heap.size + 1 + 1 + 1) 0 0 xe (show Row _ (w.heap.size + 1 + 1 + 1) #[.int .i64 0, .int .i64 0] from (by exact ro)) rfl rfl) rfl ?_
      exact ⟨by rw [HE.out], (show Chg [] w _ by (repeat' (first | (with_reducible first | exact Chg.refl _ _ | assumption | refine Chg.alloc ?_ _ | refine Chg.drew ?_ | refine Chg.drewN ?_ _ | refine Chg.setCell ?_ ?_ _ | refine Chg.upc ?_ (by assumption) | refine Chg.call ?_ (by assumption) ?_) | (refine Or.inl ?_; (simp; done)) | (simp; done) | (simp; omega) | omega))).up⟩
  · rw [if_neg h1] at hE
    have HE := Lib.hid hE
    have t1 : (de == 0) = false := by simpa using h1
    clear hE h1
    go_enter Tryd.func34, Tryd.ntmps34
    go_wp2_with (first
      | (go_at_call 55; ((with_reducible refine (Mat.delta_calls c.a c.b c.c c.d c.x c.y bx bz _).mono ?_); rw [HD.out]; rintro E w1 ⟨rfl, hu1⟩; have z1 := hu1.size; (try simp at z1); have RAw1 : Row w1 (w.heap.size + 1) #[.int .i64 ax, .int .i64 ay] := Row.up (show Row _ (w.heap.size + 1) #[.int .i64 ax, .int .i64 ay] by exact ra) hu1; have RPw1 : Row w1 (w.heap.size + 1 + 1 + 1) #[.int .i64 0, .int .i64 0] := Row.up (show Row _ (w.heap.size + 1 + 1 + 1) #[.int .i64 0, .int .i64 0] by exact ra) hu1; have aw1_0 : w1.cell? ⟨w.heap.size + 1, 0, none⟩ = some (.int .i64 ax) := RAw1.cell 0 rfl; have pw1_0 : w1.cell? ⟨w.heap.size + 1 + 1 + 1, 0, none⟩ = some (.int .i64 0) := RPw1.cell 0 rfl; have pfw1_0 := RPw1.free 0; have aw1_1 : w1.cell? ⟨w.heap.size + 1, 1, none⟩ = some (.int .i64 ay) := RAw1.cell 1 rfl; have pw1_1 : w1.cell? ⟨w.heap.size + 1 + 1 + 1, 1, none⟩ = some (.int .i64 0) := RPw1.cell 1 rfl; have pfw1_1 := RPw1.free 1; have law1 := RAw1.lt; have lpw1 := RPw1.lt)))
    (try simp only [Exit.inBlock, Exit.then])
    refine bodyPost_ret (results_ptij rfl _ _ (w.heap.size + 1 + 1 + 1) 0 0 de (show Row _ (w.heap.size + 1 + 1 + 1) #[.int .i64 0, .int .i64 0] from (by exact ro)) rfl rfl) rfl ?_
    exact ⟨by rw [HE.out], (show Chg [] w _ by (repeat' (first | (with_reducible first | exact Chg.refl _ _ | assumption | refine Chg.alloc ?_ _ | refine Chg.drew ?_ | refine Chg.drewN ?_ _ | refine Chg.setCell ?_ ?_ _ | refine Chg.upc ?_ (by assumption) | refine Chg.call ?_ (by assumption) ?_) | (refine Or.inl ?_; (simp; done)) | (simp; done) | (simp; omega) | omega))).up⟩

end Go.Proofs.YtjdbefpfjhdmoaaDoor.Sh
end

section
namespace Go.Proofs.YtjdbefpfjhdmoaaDoor.Sh
open List renaming getElem_toArray → lga, getElem_cons_zero → lgz, getElem_cons_succ → lgs, setIfInBounds_toArray → lsa, set_cons_zero → lsz, set_cons_succ → lss
open Go.Proofs.YtjdbefpfjhdmoaaDoor.ZGA
open Go.ChangeShapes Go.WideShapes Go.ChangeAt Go.RowKit
open Go.Proofs.YtjdbefpfjhdmoaaDoor.Gs
open Go.Proofs.YtjdbefpfjhdmoaaDoor.FixM (fits)
open Go.Proofs.YtjdbefpfjhdmoaaDoor.MatM (M6)
open Go.Proofs.YtjdbefpfjhdmoaaDoor.PathM
set_option linter.unusedVariables false
set_option linter.unusedSimpArgs false

theorem results_ready (tmps : Array Value) (w : World) (b1 b2 : Nat) (cs : Array Value) (x y e : Int) (e2 : tmps.getD 2 undef = .pointer (some ⟨b1, 0, none⟩)) (e3 : tmps.getD 3 undef = .pointer (some ⟨b2, 0, none⟩)) (e4 : tmps.getD 4 undef = .int .i64 e)
    (h1 : Row w b1 cs) (hs1 : cs.size = 26) (h2 : Row w b2 #[.int .i64 x, .int .i64 y]) :
    (results Tryd.f33 tmps).run Tryd.prog w = .ok (.tuple #[.agg cs, .agg #[.int .i64 x, .int .i64 y], .int .i64 e]) w := by
  rw [Array.getD_eq_getD_getElem?] at e2 e3 e4
  have hl1 := run_loadAt_mid (P := Tryd.prog) w b1 0 74 cs.toList _ (rng0 h1) Tryd.underlying74 rfl (by rw [Array.length_toList, hs1]; exact infoSt)
  have c0 : w.cell? ⟨b2, 0, none⟩ = some (.int .i64 x) := h2.cell 0 rfl
  have c1 : w.cell? ⟨b2, 1, none⟩ = some (.int .i64 y) := h2.cell 1 rfl
  simp [results, Tryd.results33, go_sem, e2] at hl1
  simp [results, Tryd.results33, go_sem, e2, e3, e4, c0, c1, hl1]
/-- the place, and why there is none -/
def placeR (fn : Int) (t : St) : (Int × Int) × Int := if fn < 0 then ((0, 0), 7) else ((Path.St.cur t).1, (Path.St.cur t).2)

theorem infoP : (Tryd.prog.info? 24).map (·.size) = some 2 := by kernel_rfl
theorem Row.made (w : World) (cs : Array Value) (t : TypeId) : Row (w.alloc (.cells cs t)) w.heap.size cs := by exact ra
set_option maxRecDepth 8000 in
set_option maxHeartbeats 4000000 in
theorem ready_calls (b : Nat) (c : M6) (wd ph fn : Int) (fm : M6) (dk : Bool) (p : Nat) (most segs : Int) (pv : Value) (T : St) (w : World) (h : Row w b (gsC c wd (.slice none 0 0) ph fn fm dk p most segs)) (hp : Path.PathIs w p pv T) :
    Calls Tryd.prog 33 #[.pointer (some ⟨b, 0, none⟩)] w fun E w' => (∃ gc, w.heap.size ≤ gc ∧ E = .returned (.tuple #[.agg #[.int .i64 c.a, .int .i64 c.b, .int .i64 c.c, .int .i64 c.d, .int .i64 c.x, .int .i64 c.y, .int .i64 1, .int .i64 0, .int .i64 0, .int .i64 0, .int .i64 0, .int .i64 wd, .int .i64 0, .int .i64 0, .int .i64 655360, .slice none 0 0, .int .i64 ph, .int .i64 fn, .int .i64 fm.a, .int .i64 fm.b, .int .i64 fm.c, .int .i64 fm.d, .int .i64 fm.x, .int .i64 fm.y, .slice (some ⟨gc, 0, none⟩) 0 0, .bool dk], .agg #[.int .i64 (placeR fn T).1.1, .int .i64 (placeR fn T).1.2], .int .i64 (placeR fn T).2])) ∧ Up w w' := by
  have HR := Lib.hid h
  have HP := Lib.hid hp
  clear h hp
  cases hn : decide (fn < 0)
  · obtain ⟨xx, hX⟩ : ∃ X, (Path.St.cur T).1.1 = X := ⟨_, rfl⟩
    obtain ⟨yy, hY⟩ : ∃ X, (Path.St.cur T).1.2 = X := ⟨_, rfl⟩
    obtain ⟨ee, hE1⟩ : ∃ X, (Path.St.cur T).2 = X := ⟨_, rfl⟩
    have HE := Lib.hid (show placeR fn T = ((xx, yy), ee) by unfold placeR; rw [if_neg (of_decide_eq_false hn), ← hX, ← hY, ← hE1])
    have HX := Lib.hid hX
    have HY := Lib.hid hY
    have HE1 := Lib.hid hE1
    clear hX hY hE1
    go_enter Tryd.func33, Tryd.ntmps33
    go_wp2_with (first
      | (go_at_call 27; ((with_reducible refine (now_calls b c wd ph fn fm dk p most segs _ (HR.out.up (by exact ua))).mono ?_); rintro E w1 ⟨⟨gc, hg1, hg2, rfl⟩, hu1⟩; have z1 := hu1.size; (try simp at z1); (try simp at hg1); have RZ1 : Row w1 w.heap.size #[.int .i64 0, .int .i64 0, .int .i64 0, .int .i64 0, .int .i64 0, .int .i64 0, .int .i64 0, .int .i64 0, .int .i64 0, .int .i64 0, .int .i64 0, .int .i64 0, .int .i64 0, .int .i64 0, .int .i64 0, .slice none 0 0, .int .i64 0, .int .i64 0, .int .i64 0, .int .i64 0, .int .i64 0, .int .i64 0, .int .i64 0, .int .i64 0, .slice none 0 0, .bool false] := Row.up (show Row _ w.heap.size #[.int .i64 0, .int .i64 0, .int .i64 0, .int .i64 0, .int .i64 0, .int .i64 0, .int .i64 0, .int .i64 0, .int .i64 0, .int .i64 0, .int .i64 0, .int .i64 0, .int .i64 0, .int .i64 0, .int .i64 0, .slice none 0 0, .int .i64 0, .int .i64 0, .int .i64 0, .int .i64 0, .int .i64 0, .int .i64 0, .int .i64 0, .int .i64 0, .slice none 0 0, .bool false] by exact ra) hu1; have RP1 : Row w1 (w.heap.size + 1) #[.int .i64 0, .int .i64 0] := Row.up (show Row _ (w.heap.size + 1) #[.int .i64 0, .int .i64 0] by exact ra) hu1; have RG1 := Row.up (show Row _ b (gsC c wd (.slice none 0 0) ph fn fm dk p most segs) from (HR.out.alloc _).alloc _) hu1; have HP1 := Lib.hid (HP.out.up (show Up w w1 by exact ua)); unfold stC))
      | ((refine wpList_store_Row rfl 74 (.tmp 5) _ rfl (w1.heap.size) #[.int .i64 c.a, .int .i64 c.b, .int .i64 c.c, .int .i64 c.d, .int .i64 c.x, .int .i64 c.y, .int .i64 1, .int .i64 0, .int .i64 0, .int .i64 0, .int .i64 0, .int .i64 wd, .int .i64 0, .int .i64 0, .int .i64 655360, .slice none 0 0, .int .i64 ph, .int .i64 fn, .int .i64 fm.a, .int .i64 fm.b, .int .i64 fm.c, .int .i64 fm.d, .int .i64 fm.x, .int .i64 fm.y, .slice (some ⟨gc, 0, none⟩) 0 0, .bool dk] rfl rfl #[.int .i64 0, .int .i64 0, .int .i64 0, .int .i64 0, .int .i64 0, .int .i64 0, .int .i64 0, .int .i64 0, .int .i64 0, .int .i64 0, .int .i64 0, .int .i64 0, .int .i64 0, .int .i64 0, .int .i64 0, .slice none 0 0, .int .i64 0, .int .i64 0, .int .i64 0, .int .i64 0, .int .i64 0, .int .i64 0, .int .i64 0, .int .i64 0, .slice none 0 0, .bool false] (by exact ra) infoSt rfl rfl (by simp [Value.oneCell']) ?_); intro w2 hr2 hc2; have z2 := hc2.size; (try simp at z2); have m2 : w2.cell? ⟨w1.heap.size, 17, none⟩ = some (.int .i64 fn) := hr2.cell 17 rfl; have lb1 := RG1.lt; have RZ2 : Row w2 w.heap.size #[.int .i64 0, .int .i64 0, .int .i64 0, .int .i64 0, .int .i64 0, .int .i64 0, .int .i64 0, .int .i64 0, .int .i64 0, .int .i64 0, .int .i64 0, .int .i64 0, .int .i64 0, .int .i64 0, .int .i64 0, .slice none 0 0, .int .i64 0, .int .i64 0, .int .i64 0, .int .i64 0, .int .i64 0, .int .i64 0, .int .i64 0, .int .i64 0, .slice none 0 0, .bool false] := (by exact ra); have RP2 : Row w2 (w.heap.size + 1) #[.int .i64 0, .int .i64 0] := (by exact ra); have RG2 : Row w2 b (gsC c wd (.slice none 0 0) ph fn fm dk p most segs) := (by exact ra); have lg2 := RG2.lt; have HP2 := Lib.hid (HP1.out.up (show Chg [] w1 w2 by (repeat' (first | (with_reducible first | exact Chg.refl _ _ | assumption | refine Chg.alloc ?_ _ | refine Chg.drew ?_ | refine Chg.drewN ?_ _ | refine Chg.setCell ?_ ?_ _ | refine Chg.upc ?_ (by assumption) | refine Chg.call ?_ (by assumption) ?_) | (refine Or.inl ?_; (simp; done)) | (simp; done) | (simp; omega) | omega))).up); have g26 : w2.cell? ⟨b, 26, none⟩ = some (.pointer (some ⟨p, 0, none⟩)) := RG2.cell 26 rfl; have p2_0 : w2.cell? ⟨w.heap.size + 1, 0, none⟩ = some (.int .i64 0) := RP2.cell 0 rfl; have pf2_0 := RP2.free 0; have p2_1 : w2.cell? ⟨w.heap.size + 1, 1, none⟩ = some (.int .i64 0) := RP2.cell 1 rfl; have pf2_1 := RP2.free 1)
      | (go_at_call 16; ((with_reducible refine (path_calls b p _ g26).mono ?_); rintro E w90 ⟨rfl, rfl⟩))
      | (go_at_call 59; ((with_reducible refine (Path.current_calls p pv T _ HP2.out).mono ?_); rw [HX.out, HY.out, HE1.out]; rintro E w4 ⟨rfl, hu4⟩; have z4 := hu4.size; have RS4 := hr2.up hu4; have RZ4 := RZ2.up hu4; have RP4 := RP2.up hu4)))
    refine wp_region_held_drew (S := fun w' => Row w' w1.heap.size #[.int .i64 c.a, .int .i64 c.b, .int .i64 c.c, .int .i64 c.d, .int .i64 c.x, .int .i64 c.y, .int .i64 1, .int .i64 0, .int .i64 0, .int .i64 0, .int .i64 0, .int .i64 wd, .int .i64 0, .int .i64 0, .int .i64 655360, .slice none 0 0, .int .i64 ph, .int .i64 fn, .int .i64 fm.a, .int .i64 fm.b, .int .i64 fm.c, .int .i64 fm.d, .int .i64 fm.x, .int .i64 fm.y, .slice (some ⟨gc, 0, none⟩) 0 0, .bool dk] ∧ Row w' w4.heap.size #[.int .i64 xx, .int .i64 yy]) (by kernel_rfl) ?_ (fun hHeld => ?_)
    · exact ⟨Row.drew (RS4.alloc _), Row.drew (Row.made _ _ _)⟩
    refine wpAnyH_take (i := 0) rfl (by kernel_rfl) (by kernel_rfl) (by kernel_rfl) (fun _ _ _ h => h) (yieldsIf_load_mid (by rfl) 74 (.tmp 5) rfl w1.heap.size 0 rfl #[.int .i64 c.a, .int .i64 c.b, .int .i64 c.c, .int .i64 c.d, .int .i64 c.x, .int .i64 c.y, .int .i64 1, .int .i64 0, .int .i64 0, .int .i64 0, .int .i64 0, .int .i64 wd, .int .i64 0, .int .i64 0, .int .i64 655360, .slice none 0 0, .int .i64 ph, .int .i64 fn, .int .i64 fm.a, .int .i64 fm.b, .int .i64 fm.c, .int .i64 fm.d, .int .i64 fm.x, .int .i64 fm.y, .slice (some ⟨gc, 0, none⟩) 0 0, .bool dk].toList _ (fun _ h => rng0 h.1) Tryd.underlying74 rfl (by exact infoSt)) (by assumption) ?_
    (try simp only [Act.put, lga, lgz, lgs, lsa, lsz, lss])
    refine wpAnyH_take (i := 1) rfl (by kernel_rfl) (by kernel_rfl) (by kernel_rfl) (fun _ _ _ h => h) (yieldsIf_load_mid (by rfl) 24 (.tmp 6) rfl w4.heap.size 0 rfl #[.int .i64 xx, .int .i64 yy].toList _ (fun _ h => rng0 h.2) Tryd.underlying24 rfl (by exact infoP)) (by assumption) ?_
    (try simp only [Act.put, lga, lgz, lgs, lsa, lsz, lss])
    refine wpAnyH_take (i := 2) (v := ?_) rfl (by kernel_rfl) (by kernel_rfl) (by kernel_rfl) (fun _ _ _ h => h) (Or.inl ⟨by rfl, ?_⟩) (by assumption) ?_
    rotate_left
    · intro w2 hSw
      (try dsimp only at hSw)
      (try (obtain ⟨hs1, hs2, hs3⟩ := hSw))
      go_simp
      (try (with_reducible rfl))
    (try simp only [Act.put, lga, lgz, lgs, lsa, lsz, lss])
    refine wpAnyH_ready (rs := [3]) (by decide +kernel) (by simp) ?_
    refine AllReadyH.cons rfl (fun K hK => ?_) AllReadyH.nil
    (try simp only [lga, lgz, lgs])
    (rw [if_pos (by rfl)]; refine wp_store_RowS 74 (.tmp 2) (.tmp 21) rfl (w.heap.size) #[.int .i64 c.a, .int .i64 c.b, .int .i64 c.c, .int .i64 c.d, .int .i64 c.x, .int .i64 c.y, .int .i64 1, .int .i64 0, .int .i64 0, .int .i64 0, .int .i64 0, .int .i64 wd, .int .i64 0, .int .i64 0, .int .i64 655360, .slice none 0 0, .int .i64 ph, .int .i64 fn, .int .i64 fm.a, .int .i64 fm.b, .int .i64 fm.c, .int .i64 fm.d, .int .i64 fm.x, .int .i64 fm.y, .slice (some ⟨gc, 0, none⟩) 0 0, .bool dk] rfl rfl #[.int .i64 0, .int .i64 0, .int .i64 0, .int .i64 0, .int .i64 0, .int .i64 0, .int .i64 0, .int .i64 0, .int .i64 0, .int .i64 0, .int .i64 0, .int .i64 0, .int .i64 0, .int .i64 0, .int .i64 0, .slice none 0 0, .int .i64 0, .int .i64 0, .int .i64 0, .int .i64 0, .int .i64 0, .int .i64 0, .int .i64 0, .int .i64 0, .slice none 0 0, .bool false] ((RZ4.alloc _).drew) infoSt rfl rfl (by simp [Value.oneCell']) ?_); intro wm hr_wm hc_wm
    refine hK.out _ _ ?_ (fun hHeld => ?_)
    · exact ⟨hHeld.1.chg hc_wm (by simp; omega), hHeld.2.chg hc_wm (by simp; omega)⟩
    clear hK K
    (try simp only [Act.put, lga, lgz, lgs, lsa, lsz, lss])
    refine wpAnyH_ready (rs := [4]) (by decide +kernel) (by simp) ?_
    refine AllReadyH.cons rfl (fun K hK => ?_) AllReadyH.nil
    (try simp only [lga, lgz, lgs])
    (rw [if_pos (by rfl)]; refine wp_store_RowS 24 (.tmp 3) (.tmp 22) rfl (w.heap.size + 1) #[.int .i64 xx, .int .i64 yy] rfl rfl #[.int .i64 0, .int .i64 0] (((RP4.alloc _).drew).chg hc_wm (by simp)) infoP rfl rfl (by simp [Value.oneCell']) ?_); intro we hr_we hc_we
    refine hK.out _ _ ?_ (fun hHeld => ?_)
    · exact ⟨hHeld.1.chg hc_we (by simp; omega), hHeld.2.chg hc_we (by simp; omega)⟩
    clear hK K
    (try simp only [Act.put, lga, lgz, lgs, lsa, lsz, lss])
    refine wpAnyH_take (i := 5) (v := ?_) rfl (by kernel_rfl) (by kernel_rfl) (by kernel_rfl) (fun _ _ _ h => h) (Or.inl ⟨by rfl, ?_⟩) (by assumption) ?_
    rotate_left
    · intro w2 hSw
      (try dsimp only at hSw)
      (try (obtain ⟨hs1, hs2, hs3⟩ := hSw))
      go_simp
      (try (with_reducible rfl))
    (try simp only [Act.put, lga, lgz, lgs, lsa, lsz, lss])
    refine wpAnyH_done (by kernel_rfl) ?_ _
    (try simp only [Exit.inBlock, Exit.then])
    apply_assumption
    apply wp_ret
    refine bodyPost_ret (results_ready _ _ w.heap.size (w.heap.size + 1) #[.int .i64 c.a, .int .i64 c.b, .int .i64 c.c, .int .i64 c.d, .int .i64 c.x, .int .i64 c.y, .int .i64 1, .int .i64 0, .int .i64 0, .int .i64 0, .int .i64 0, .int .i64 wd, .int .i64 0, .int .i64 0, .int .i64 655360, .slice none 0 0, .int .i64 ph, .int .i64 fn, .int .i64 fm.a, .int .i64 fm.b, .int .i64 fm.c, .int .i64 fm.d, .int .i64 fm.x, .int .i64 fm.y, .slice (some ⟨gc, 0, none⟩) 0 0, .bool dk] xx yy ee rfl rfl rfl (hr_wm.chg hc_we (by simp)) rfl hr_we) rfl ?_
    refine ⟨⟨gc, by omega, by rw [HE.out]⟩, (show Chg [] w we from ?_).up⟩
    exact ((((show Chg [] w w4 by (repeat' (first | (with_reducible first | exact Chg.refl _ _ | assumption | refine Chg.alloc ?_ _ | refine Chg.drew ?_ | refine Chg.drewN ?_ _ | refine Chg.setCell ?_ ?_ _ | refine Chg.upc ?_ (by assumption) | refine Chg.call ?_ (by assumption) ?_) | (refine Or.inl ?_; (simp; done)) | (simp; done) | (simp; omega) | omega))).alloc _).drew).call hc_wm (fun k hk => by simp at hk; subst hk; exact Or.inr (Nat.le_refl _))).call hc_we (fun k hk => by simp at hk; subst hk; exact Or.inr (by omega))
  · have HE := Lib.hid (show placeR fn T = ((0, 0), 7) by unfold placeR; rw [if_pos (of_decide_eq_true hn)])
    go_enter Tryd.func33, Tryd.ntmps33
    go_wp2_with (first
      | (go_at_call 27; ((with_reducible refine (now_calls b c wd ph fn fm dk p most segs _ (HR.out.up (by exact ua))).mono ?_); rintro E w1 ⟨⟨gc, hg1, hg2, rfl⟩, hu1⟩; have z1 := hu1.size; (try simp at z1); (try simp at hg1); have RZ1 : Row w1 w.heap.size #[.int .i64 0, .int .i64 0, .int .i64 0, .int .i64 0, .int .i64 0, .int .i64 0, .int .i64 0, .int .i64 0, .int .i64 0, .int .i64 0, .int .i64 0, .int .i64 0, .int .i64 0, .int .i64 0, .int .i64 0, .slice none 0 0, .int .i64 0, .int .i64 0, .int .i64 0, .int .i64 0, .int .i64 0, .int .i64 0, .int .i64 0, .int .i64 0, .slice none 0 0, .bool false] := Row.up (show Row _ w.heap.size #[.int .i64 0, .int .i64 0, .int .i64 0, .int .i64 0, .int .i64 0, .int .i64 0, .int .i64 0, .int .i64 0, .int .i64 0, .int .i64 0, .int .i64 0, .int .i64 0, .int .i64 0, .int .i64 0, .int .i64 0, .slice none 0 0, .int .i64 0, .int .i64 0, .int .i64 0, .int .i64 0, .int .i64 0, .int .i64 0, .int .i64 0, .int .i64 0, .slice none 0 0, .bool false] by exact ra) hu1; have RP1 : Row w1 (w.heap.size + 1) #[.int .i64 0, .int .i64 0] := Row.up (show Row _ (w.heap.size + 1) #[.int .i64 0, .int .i64 0] by exact ra) hu1; have RG1 := Row.up (show Row _ b (gsC c wd (.slice none 0 0) ph fn fm dk p most segs) from (HR.out.alloc _).alloc _) hu1; have HP1 := Lib.hid (HP.out.up (show Up w w1 by exact ua)); unfold stC))
      | ((refine wpList_store_Row rfl 74 (.tmp 5) _ rfl (w1.heap.size) #[.int .i64 c.a, .int .i64 c.b, .int .i64 c.c, .int .i64 c.d, .int .i64 c.x, .int .i64 c.y, .int .i64 1, .int .i64 0, .int .i64 0, .int .i64 0, .int .i64 0, .int .i64 wd, .int .i64 0, .int .i64 0, .int .i64 655360, .slice none 0 0, .int .i64 ph, .int .i64 fn, .int .i64 fm.a, .int .i64 fm.b, .int .i64 fm.c, .int .i64 fm.d, .int .i64 fm.x, .int .i64 fm.y, .slice (some ⟨gc, 0, none⟩) 0 0, .bool dk] rfl rfl #[.int .i64 0, .int .i64 0, .int .i64 0, .int .i64 0, .int .i64 0, .int .i64 0, .int .i64 0, .int .i64 0, .int .i64 0, .int .i64 0, .int .i64 0, .int .i64 0, .int .i64 0, .int .i64 0, .int .i64 0, .slice none 0 0, .int .i64 0, .int .i64 0, .int .i64 0, .int .i64 0, .int .i64 0, .int .i64 0, .int .i64 0, .int .i64 0, .slice none 0 0, .bool false] (by exact ra) infoSt rfl rfl (by simp [Value.oneCell']) ?_); intro w2 hr2 hc2; have z2 := hc2.size; (try simp at z2); have m2 : w2.cell? ⟨w1.heap.size, 17, none⟩ = some (.int .i64 fn) := hr2.cell 17 rfl; have lb1 := RG1.lt; have RZ2 : Row w2 w.heap.size #[.int .i64 0, .int .i64 0, .int .i64 0, .int .i64 0, .int .i64 0, .int .i64 0, .int .i64 0, .int .i64 0, .int .i64 0, .int .i64 0, .int .i64 0, .int .i64 0, .int .i64 0, .int .i64 0, .int .i64 0, .slice none 0 0, .int .i64 0, .int .i64 0, .int .i64 0, .int .i64 0, .int .i64 0, .int .i64 0, .int .i64 0, .int .i64 0, .slice none 0 0, .bool false] := (by exact ra); have RP2 : Row w2 (w.heap.size + 1) #[.int .i64 0, .int .i64 0] := (by exact ra); have RG2 : Row w2 b (gsC c wd (.slice none 0 0) ph fn fm dk p most segs) := (by exact ra); have lg2 := RG2.lt; have HP2 := Lib.hid (HP1.out.up (show Chg [] w1 w2 by (repeat' (first | (with_reducible first | exact Chg.refl _ _ | assumption | refine Chg.alloc ?_ _ | refine Chg.drew ?_ | refine Chg.drewN ?_ _ | refine Chg.setCell ?_ ?_ _ | refine Chg.upc ?_ (by assumption) | refine Chg.call ?_ (by assumption) ?_) | (refine Or.inl ?_; (simp; done)) | (simp; done) | (simp; omega) | omega))).up); have g26 : w2.cell? ⟨b, 26, none⟩ = some (.pointer (some ⟨p, 0, none⟩)) := RG2.cell 26 rfl; have p2_0 : w2.cell? ⟨w.heap.size + 1, 0, none⟩ = some (.int .i64 0) := RP2.cell 0 rfl; have pf2_0 := RP2.free 0; have p2_1 : w2.cell? ⟨w.heap.size + 1, 1, none⟩ = some (.int .i64 0) := RP2.cell 1 rfl; have pf2_1 := RP2.free 1)
      | (refine wpList_load_Row rfl 74 (.tmp 5) rfl (w1.heap.size) rfl #[.int .i64 c.a, .int .i64 c.b, .int .i64 c.c, .int .i64 c.d, .int .i64 c.x, .int .i64 c.y, .int .i64 1, .int .i64 0, .int .i64 0, .int .i64 0, .int .i64 0, .int .i64 wd, .int .i64 0, .int .i64 0, .int .i64 655360, .slice none 0 0, .int .i64 ph, .int .i64 fn, .int .i64 fm.a, .int .i64 fm.b, .int .i64 fm.c, .int .i64 fm.d, .int .i64 fm.x, .int .i64 fm.y, .slice (some ⟨gc, 0, none⟩) 0 0, .bool dk] _ hr2 Tryd.underlying74 rfl infoSt rfl ?_)
      | ((refine wpList_store_Row rfl 74 (.tmp 2) _ rfl (w.heap.size) #[.int .i64 c.a, .int .i64 c.b, .int .i64 c.c, .int .i64 c.d, .int .i64 c.x, .int .i64 c.y, .int .i64 1, .int .i64 0, .int .i64 0, .int .i64 0, .int .i64 0, .int .i64 wd, .int .i64 0, .int .i64 0, .int .i64 655360, .slice none 0 0, .int .i64 ph, .int .i64 fn, .int .i64 fm.a, .int .i64 fm.b, .int .i64 fm.c, .int .i64 fm.d, .int .i64 fm.x, .int .i64 fm.y, .slice (some ⟨gc, 0, none⟩) 0 0, .bool dk] rfl rfl #[.int .i64 0, .int .i64 0, .int .i64 0, .int .i64 0, .int .i64 0, .int .i64 0, .int .i64 0, .int .i64 0, .int .i64 0, .int .i64 0, .int .i64 0, .int .i64 0, .int .i64 0, .int .i64 0, .int .i64 0, .slice none 0 0, .int .i64 0, .int .i64 0, .int .i64 0, .int .i64 0, .int .i64 0, .int .i64 0, .int .i64 0, .int .i64 0, .slice none 0 0, .bool false] RZ2 infoSt rfl rfl (by simp [Value.oneCell']) ?_); intro w3 hr3 hc3; have RP3 : Row w3 (w.heap.size + 1) #[.int .i64 0, .int .i64 0] := (by exact ra); have p3_0 : w3.cell? ⟨w.heap.size + 1, 0, none⟩ = some (.int .i64 0) := RP3.cell 0 rfl; have pf3_0 := RP3.free 0; have p3_1 : w3.cell? ⟨w.heap.size + 1, 1, none⟩ = some (.int .i64 0) := RP3.cell 1 rfl; have pf3_1 := RP3.free 1))
    (try simp only [Exit.inBlock, Exit.then])
    refine bodyPost_ret (results_ready _ _ w.heap.size (w.heap.size + 1) #[.int .i64 c.a, .int .i64 c.b, .int .i64 c.c, .int .i64 c.d, .int .i64 c.x, .int .i64 c.y, .int .i64 1, .int .i64 0, .int .i64 0, .int .i64 0, .int .i64 0, .int .i64 wd, .int .i64 0, .int .i64 0, .int .i64 655360, .slice none 0 0, .int .i64 ph, .int .i64 fn, .int .i64 fm.a, .int .i64 fm.b, .int .i64 fm.c, .int .i64 fm.d, .int .i64 fm.x, .int .i64 fm.y, .slice (some ⟨gc, 0, none⟩) 0 0, .bool dk] 0 0 7 rfl rfl rfl (by exact ro) rfl (by exact ro)) rfl ?_
    exact ⟨⟨gc, by omega, by rw [HE.out]⟩, (show Chg [] w _ by (repeat' (first | (with_reducible first | exact Chg.refl _ _ | assumption | refine Chg.alloc ?_ _ | refine Chg.drew ?_ | refine Chg.drewN ?_ _ | refine Chg.setCell ?_ ?_ _ | refine Chg.upc ?_ (by assumption) | refine Chg.call ?_ (by assumption) ?_) | (refine Or.inl ?_; (simp; done)) | (simp; done) | (simp; omega) | omega))).up⟩

end Go.Proofs.YtjdbefpfjhdmoaaDoor.Sh
end

section
namespace Go.Proofs.YtjdbefpfjhdmoaaDoor.Sh
open Go.Proofs.YtjdbefpfjhdmoaaDoor.ZGA
open Go.ChangeShapes Go.WideShapes Go.ChangeAt Go.RowKit
open Go.Proofs.YtjdbefpfjhdmoaaDoor.Gs
set_option linter.unusedVariables false
set_option linter.unusedSimpArgs false

theorem info8 : (Tryd.prog.info? 5).map (fun i => (i.zero, i.size, i.bytes)) = some (some (.int .u8 0), 1, 1) := by kernel_rfl
theorem bclone_calls (v : Value) (zs : List Int) (w : World) (hv : Ints .u8 w v zs) (hl : zs.length ≤ 1000000) :
    Calls Tryd.prog 62 #[v] w fun E w' => ∃ v', E = .returned v' ∧ Ints .u8 w' v' zs ∧ Up w w' ∧ ∀ g, v'.ownBlock = some g → w.heap.size ≤ g := by
  obtain ⟨i0, hi, hz0, hz1, hz2⟩ := info_parts info8
  have HW := Lib.hid hv.wf
  have HV := Lib.hid hv
  obtain ⟨ao, c, rfl, hlc, hcm, hnone, hsome⟩ := hv.src
  have heq := fun w => Lib.run_eql_slice_nil (P := Tryd.prog) w 27 5 ao zs.length c 0 0 Tryd.underlying27
  clear hv
  cases ao with
  | none =>
    obtain rfl : zs = [] := by
      have := hnone rfl
      first | exact this.1 | (apply List.eq_nil_of_length_eq_zero; omega)
    obtain rfl : c = 0 := by
      have := hnone rfl
      first | exact this.2 | omega
    clear hsome hnone heq
    have heq0 := fun w => Lib.run_eql_slice_nil (P := Tryd.prog) w 27 5 none 0 0 0 0 Tryd.underlying27
    show Calls Tryd.prog 62 #[.slice none 0 0] w _
    clear HV HW hlc hcm
    go_enter Tryd.func62, Tryd.ntmps62
    go_wp2
    go_ret
    exact ⟨_, rfl, ints_nil _ _, by exact ua, fun g hg => by cases hg⟩
  | some ad =>
    clear hsome hnone
    go_enter Tryd.func62, Tryd.ntmps62
    go_wp2_with (at_builtin; refine wpList_append_any rfl _ _ 27 rfl w.heap.size 5 i0 (.int .u8 0) 1 1 Tryd.underlying27 hi hz0 hz1 hz2 rfl (by decide) (.slice (some ⟨w.heap.size, 0, none⟩) 0 0) 0 [] rfl (ownsRow_empty w w.heap.size _ (Nat.le_refl _)) (some ad) zs.length c (zs.map (Value.int .u8)) rfl (by simp) (fun h => by cases h) (HV.out.news (Up.alloc (Up.refl w) _)) (ints_oneCell _ _) (by unfold maxLen; omega) (by omega) (by simp) ?_; intro v4 w4 hown hgr hnil; have hu4 : Up w w4 := grown_up (Up.alloc (Up.refl w) _) hgr (fun k0 hk0 => by have h4 : w.heap.size = k0 := (by injection hk0); omega); have HI4 : Hid (Ints .u8 w4 v4 zs) := Lib.hid (owns_ints (by simpa using hown) HW.out); have HG4 := Lib.hid (show ∀ k0, v4.ownBlock = some k0 → w.heap.size ≤ k0 from fun k0 hk0 => (hown.lt k0 hk0).1); clear hgr hnil hown)
    go_ret
    exact ⟨_, rfl, HI4.out, by exact ua, HG4.out⟩

end Go.Proofs.YtjdbefpfjhdmoaaDoor.Sh
end

section
namespace Go.Proofs.YtjdbefpfjhdmoaaDoor.Sh
open List renaming getElem_toArray → lga, getElem_cons_zero → lgz, getElem_cons_succ → lgs, setIfInBounds_toArray → lsa, set_cons_zero → lsz, set_cons_succ → lss
open Go.Proofs.YtjdbefpfjhdmoaaDoor.ZGA
open Go.ChangeShapes Go.WideShapes Go.ChangeAt Go.RowKit
open Go.Proofs.YtjdbefpfjhdmoaaDoor.Gs
open Go.Proofs.YtjdbefpfjhdmoaaDoor.FixM (fits)
open Go.Proofs.YtjdbefpfjhdmoaaDoor.MatM (M6 concat)
set_option linter.unusedVariables false
set_option linter.unusedSimpArgs false

theorem infoIt : (Tryd.prog.info? 86).map (·.size) = some 22 := by kernel_rfl
theorem results_item (tmps : Array Value) (w : World) (b1 : Nat) (cs : Array Value) (e : Int) (e2 : tmps.getD 6 undef = .pointer (some ⟨b1, 0, none⟩)) (e4 : tmps.getD 7 undef = .int .i64 e)
    (h1 : Row w b1 cs) (hs1 : cs.size = 22) :
    (results Tryd.f36 tmps).run Tryd.prog w = .ok (.tuple #[.agg cs, .int .i64 e]) w := by
  rw [Array.getD_eq_getD_getElem?] at e2 e4
  have hl1 := run_loadAt_mid (P := Tryd.prog) w b1 0 86 cs.toList _ (rng0 h1) Tryd.underlying86 rfl (by rw [Array.length_toList, hs1]; exact infoIt)
  simp [results, Tryd.results36, go_sem, e2] at hl1
  simp [results, Tryd.results36, go_sem, e2, e4, hl1]

theorem s13_of {w : World} {b b2 : Nat} {c fm mm : M6} {wd ph fn ax ay : Int} {ca : Option Addr} {cl cc : Nat} {dk : Bool} (h : Row w b #[.int .i64 c.a, .int .i64 c.b, .int .i64 c.c, .int .i64 c.d, .int .i64 c.x, .int .i64 c.y, .int .i64 1, .int .i64 0, .int .i64 0, .int .i64 0, .int .i64 0, .int .i64 wd, .int .i64 0, .int .i64 0, .int .i64 655360, .slice none 0 0, .int .i64 ph, .int .i64 fn, .int .i64 fm.a, .int .i64 fm.b, .int .i64 fm.c, .int .i64 fm.d, .int .i64 fm.x, .int .i64 fm.y, .slice ca cl cc, .bool dk]) (h2 : Row w b2 #[.int .i64 mm.a, .int .i64 mm.b, .int .i64 mm.c, .int .i64 mm.d, .int .i64 ax, .int .i64 ay]) : w.cell? ⟨b, 6, none⟩ = some (.int .i64 1) ∧ w.cell? ⟨b, 7, none⟩ = some (.int .i64 0) ∧ w.cell? ⟨b, 8, none⟩ = some (.int .i64 0) ∧ w.cell? ⟨b, 9, none⟩ = some (.int .i64 0) ∧ w.cell? ⟨b, 10, none⟩ = some (.int .i64 0) ∧ w.cell? ⟨b, 17, none⟩ = some (.int .i64 fn) ∧ w.cell? ⟨b, 24, none⟩ = some (.slice ca cl cc) ∧ w.cell? ⟨b2, 0, none⟩ = some (.int .i64 mm.a) ∧ w.cell? ⟨b2, 1, none⟩ = some (.int .i64 mm.b) ∧ w.cell? ⟨b2, 2, none⟩ = some (.int .i64 mm.c) ∧ w.cell? ⟨b2, 3, none⟩ = some (.int .i64 mm.d) ∧ w.cell? ⟨b2, 4, none⟩ = some (.int .i64 ax) ∧ w.cell? ⟨b2, 5, none⟩ = some (.int .i64 ay) := ⟨h.cell 6 rfl, h.cell 7 rfl, h.cell 8 rfl, h.cell 9 rfl, h.cell 10 rfl, h.cell 17 rfl, h.cell 24 rfl, h2.cell 0 rfl, h2.cell 1 rfl, h2.cell 2 rfl, h2.cell 3 rfl, h2.cell 4 rfl, h2.cell 5 rfl⟩

theorem ints_chg {k : IntKind} {w w1 : World} {v : Value} {zs : List Int} {b : Nat} (h : Ints k w v zs) (hc : Chg [b] w w1) (hn : ∀ g, v.ownBlock = some g → g ≠ b) : Ints k w1 v zs := by
  obtain ⟨ao, c, rfl, hl, hm, hno, h0, hw⟩ := h
  refine ⟨ao, c, rfl, hl, hm, hno, fun h1 => ?_, hw⟩
  obtain ⟨g, o, rfl, hb, hcell⟩ := h0 h1
  exact ⟨g, o, rfl, Nat.lt_of_lt_of_le hb hc.size, fun i hi => (hc.cells.1 g _ hb (by have := hn g rfl; simp; exact this)).trans (hcell i hi)⟩
theorem concat_callsM (A B : M6) (w : World) (h4 : (Lit.int .i64 B.x).wf = true) (h5 : (Lit.int .i64 B.y).wf = true) :
    Calls Tryd.prog 61 #[.agg #[.int .i64 A.a, .int .i64 A.b, .int .i64 A.c, .int .i64 A.d, .int .i64 A.x, .int .i64 A.y], .agg #[.int .i64 B.a, .int .i64 B.b, .int .i64 B.c, .int .i64 B.d, .int .i64 B.x, .int .i64 B.y]] w fun E w' => E = .returned (.tuple #[.agg #[.int .i64 (concat A B).1.a, .int .i64 (concat A B).1.b, .int .i64 (concat A B).1.c, .int .i64 (concat A B).1.d, .int .i64 (concat A B).1.x, .int .i64 (concat A B).1.y], .int .i64 (concat A B).2]) ∧ Up w w' :=
  Mat2.concat_calls A.a A.b A.c A.d A.x A.y B.a B.b B.c B.d B.x B.y w h4 h5
set_option maxRecDepth 8000 in
set_option maxHeartbeats 4000000 in
theorem item_bad (c : M6) (wd ph fn : Int) (fm : M6) (ca : Option Addr) (cl cc : Nat) (dk : Bool) (ax ay : Int) (v : Value) (w : World) (h4 : (Lit.int .i64 c.x).wf = true) (h5 : (Lit.int .i64 c.y).wf = true) (hb : (concat fm c).2 ≠ 0) :
    Calls Tryd.prog 36 #[.agg #[.int .i64 c.a, .int .i64 c.b, .int .i64 c.c, .int .i64 c.d, .int .i64 c.x, .int .i64 c.y, .int .i64 1, .int .i64 0, .int .i64 0, .int .i64 0, .int .i64 0, .int .i64 wd, .int .i64 0, .int .i64 0, .int .i64 655360, .slice none 0 0, .int .i64 ph, .int .i64 fn, .int .i64 fm.a, .int .i64 fm.b, .int .i64 fm.c, .int .i64 fm.d, .int .i64 fm.x, .int .i64 fm.y, .slice ca cl cc, .bool dk], .agg #[.int .i64 ax, .int .i64 ay], v] w fun E w' => E = .returned (.tuple #[.agg #[.int .i64 0, .slice none 0 0, .int .i64 0, .int .i64 0, .int .i64 0, .int .i64 0, .int .i64 0, .slice none 0 0, .int .i64 0, .int .i64 0, .int .i64 0, .int .i64 0, .slice none 0 0, .int .i64 0, .int .i64 0, .int .i64 0, .int .i64 0, .int .i64 0, .int .i64 0, .int .i64 0, .int .i64 0, .slice none 0 0], .int .i64 (concat fm c).2]) ∧ Up w w' := by
  obtain ⟨⟨mm, me⟩, hM⟩ : ∃ X, concat fm c = X := ⟨_, rfl⟩
  rw [hM] at hb ⊢
  have t1 : (me == 0) = false := by simpa using hb
  have HM := Lib.hid hM
  clear hM hb
  go_enter Tryd.func36, Tryd.ntmps36
  go_wp2_with (first
    | (go_at_call 61; ((with_reducible refine (concat_callsM fm c _ h4 h5).mono ?_); rw [HM.out]; rintro E w1 ⟨rfl, hu1⟩; have z1 := hu1.size; (try simp at z1); have RS1 : Row w1 w.heap.size #[.int .i64 c.a, .int .i64 c.b, .int .i64 c.c, .int .i64 c.d, .int .i64 c.x, .int .i64 c.y, .int .i64 1, .int .i64 0, .int .i64 0, .int .i64 0, .int .i64 0, .int .i64 wd, .int .i64 0, .int .i64 0, .int .i64 655360, .slice none 0 0, .int .i64 ph, .int .i64 fn, .int .i64 fm.a, .int .i64 fm.b, .int .i64 fm.c, .int .i64 fm.d, .int .i64 fm.x, .int .i64 fm.y, .slice ca cl cc, .bool dk] := Row.up (show Row _ w.heap.size #[.int .i64 c.a, .int .i64 c.b, .int .i64 c.c, .int .i64 c.d, .int .i64 c.x, .int .i64 c.y, .int .i64 1, .int .i64 0, .int .i64 0, .int .i64 0, .int .i64 0, .int .i64 wd, .int .i64 0, .int .i64 0, .int .i64 655360, .slice none 0 0, .int .i64 ph, .int .i64 fn, .int .i64 fm.a, .int .i64 fm.b, .int .i64 fm.c, .int .i64 fm.d, .int .i64 fm.x, .int .i64 fm.y, .slice ca cl cc, .bool dk] by exact ra) hu1; have RA1 : Row w1 (w.heap.size + 1) #[.int .i64 ax, .int .i64 ay] := Row.up (show Row _ (w.heap.size + 1) #[.int .i64 ax, .int .i64 ay] by exact ra) hu1; have RI1 : Row w1 (w.heap.size + 1 + 1) #[.int .i64 0, .slice none 0 0, .int .i64 0, .int .i64 0, .int .i64 0, .int .i64 0, .int .i64 0, .slice none 0 0, .int .i64 0, .int .i64 0, .int .i64 0, .int .i64 0, .slice none 0 0, .int .i64 0, .int .i64 0, .int .i64 0, .int .i64 0, .int .i64 0, .int .i64 0, .int .i64 0, .int .i64 0, .slice none 0 0] := Row.up (show Row _ (w.heap.size + 1 + 1) #[.int .i64 0, .slice none 0 0, .int .i64 0, .int .i64 0, .int .i64 0, .int .i64 0, .int .i64 0, .slice none 0 0, .int .i64 0, .int .i64 0, .int .i64 0, .int .i64 0, .slice none 0 0, .int .i64 0, .int .i64 0, .int .i64 0, .int .i64 0, .int .i64 0, .int .i64 0, .int .i64 0, .int .i64 0, .slice none 0 0] by exact ra) hu1; have la1 := RA1.lt; have a1_0 : w1.cell? ⟨w.heap.size + 1, 0, none⟩ = some (.int .i64 ax) := RA1.cell 0 rfl; have a1_1 : w1.cell? ⟨w.heap.size + 1, 1, none⟩ = some (.int .i64 ay) := RA1.cell 1 rfl))
    | ((refine wpList_store_Row rfl 86 (.tmp 6) _ rfl (w.heap.size + 1 + 1) #[.int .i64 0, .slice none 0 0, .int .i64 0, .int .i64 0, .int .i64 0, .int .i64 0, .int .i64 0, .slice none 0 0, .int .i64 0, .int .i64 0, .int .i64 0, .int .i64 0, .slice none 0 0, .int .i64 0, .int .i64 0, .int .i64 0, .int .i64 0, .int .i64 0, .int .i64 0, .int .i64 0, .int .i64 0, .slice none 0 0] rfl rfl #[.int .i64 0, .slice none 0 0, .int .i64 0, .int .i64 0, .int .i64 0, .int .i64 0, .int .i64 0, .slice none 0 0, .int .i64 0, .int .i64 0, .int .i64 0, .int .i64 0, .slice none 0 0, .int .i64 0, .int .i64 0, .int .i64 0, .int .i64 0, .int .i64 0, .int .i64 0, .int .i64 0, .int .i64 0, .slice none 0 0] (by exact ra) infoIt rfl rfl (by simp [Value.oneCell']) ?_); intro w3 hr3 hc3))
  (try simp only [Exit.inBlock, Exit.then])
  refine bodyPost_ret (results_item _ _ (w.heap.size + 1 + 1) #[.int .i64 0, .slice none 0 0, .int .i64 0, .int .i64 0, .int .i64 0, .int .i64 0, .int .i64 0, .slice none 0 0, .int .i64 0, .int .i64 0, .int .i64 0, .int .i64 0, .slice none 0 0, .int .i64 0, .int .i64 0, .int .i64 0, .int .i64 0, .int .i64 0, .int .i64 0, .int .i64 0, .int .i64 0, .slice none 0 0] me rfl rfl (by exact ro) rfl) rfl ?_
  exact ⟨rfl, (show Chg [] w _ by (repeat' (first | (with_reducible first | exact Chg.refl _ _ | assumption | refine Chg.alloc ?_ _ | refine Chg.drew ?_ | refine Chg.drewN ?_ _ | refine Chg.setCell ?_ ?_ _ | refine Chg.upc ?_ (by assumption) | refine Chg.call ?_ (by assumption) ?_) | (refine Or.inl ?_; (simp; done)) | (simp; done) | (simp; omega) | omega))).up⟩
set_option maxRecDepth 8000 in
set_option maxHeartbeats 4000000 in
theorem item_good (c : M6) (wd ph fn : Int) (fm : M6) (ca : Option Addr) (cl cc : Nat) (dk : Bool) (ax ay : Int) (v : Value) (zs : List Int) (w : World) (h4 : (Lit.int .i64 c.x).wf = true) (h5 : (Lit.int .i64 c.y).wf = true) (hb : (concat fm c).2 = 0) (hv : Ints .u8 w v zs) (hl : zs.length ≤ 1000000) (mm : M6) (hmm : (concat fm c).1 = mm) :
    Calls Tryd.prog 36 #[.agg #[.int .i64 c.a, .int .i64 c.b, .int .i64 c.c, .int .i64 c.d, .int .i64 c.x, .int .i64 c.y, .int .i64 1, .int .i64 0, .int .i64 0, .int .i64 0, .int .i64 0, .int .i64 wd, .int .i64 0, .int .i64 0, .int .i64 655360, .slice none 0 0, .int .i64 ph, .int .i64 fn, .int .i64 fm.a, .int .i64 fm.b, .int .i64 fm.c, .int .i64 fm.d, .int .i64 fm.x, .int .i64 fm.y, .slice ca cl cc, .bool dk], .agg #[.int .i64 ax, .int .i64 ay], v] w fun E w' => (∃ va vcc, E = .returned (.tuple #[.agg #[.int .i64 4, .slice none 0 0, .int .i64 1, .int .i64 0, .int .i64 0, .int .i64 0, .int .i64 0, .slice ca cl cc, .int .i64 0, .int .i64 0, .int .i64 0, .int .i64 0, .slice none 0 0, .int .i64 0, .int .i64 fn, .int .i64 mm.a, .int .i64 mm.b, .int .i64 mm.c, .int .i64 mm.d, .int .i64 ax, .int .i64 ay, .slice va zs.length vcc], .int .i64 0]) ∧ Ints .u8 w' (.slice va zs.length vcc) zs) ∧ Up w w' := by
  have hM : concat fm c = (mm, 0) := by rw [← hmm, ← hb]
  have HM := Lib.hid hM
  have HV := Lib.hid hv
  clear hM hb hmm hv
  go_enter Tryd.func36, Tryd.ntmps36
  go_wp2_with (go_at_call 61; ((with_reducible refine (concat_callsM fm c _ h4 h5).mono ?_); rw [HM.out]; rintro E w1 ⟨rfl, hu1⟩; have z1 := hu1.size; (try simp at z1); have RS1 : Row w1 w.heap.size #[.int .i64 c.a, .int .i64 c.b, .int .i64 c.c, .int .i64 c.d, .int .i64 c.x, .int .i64 c.y, .int .i64 1, .int .i64 0, .int .i64 0, .int .i64 0, .int .i64 0, .int .i64 wd, .int .i64 0, .int .i64 0, .int .i64 655360, .slice none 0 0, .int .i64 ph, .int .i64 fn, .int .i64 fm.a, .int .i64 fm.b, .int .i64 fm.c, .int .i64 fm.d, .int .i64 fm.x, .int .i64 fm.y, .slice ca cl cc, .bool dk] := Row.up (show Row _ w.heap.size #[.int .i64 c.a, .int .i64 c.b, .int .i64 c.c, .int .i64 c.d, .int .i64 c.x, .int .i64 c.y, .int .i64 1, .int .i64 0, .int .i64 0, .int .i64 0, .int .i64 0, .int .i64 wd, .int .i64 0, .int .i64 0, .int .i64 655360, .slice none 0 0, .int .i64 ph, .int .i64 fn, .int .i64 fm.a, .int .i64 fm.b, .int .i64 fm.c, .int .i64 fm.d, .int .i64 fm.x, .int .i64 fm.y, .slice ca cl cc, .bool dk] by exact ra) hu1; have RA1 : Row w1 (w.heap.size + 1) #[.int .i64 ax, .int .i64 ay] := Row.up (show Row _ (w.heap.size + 1) #[.int .i64 ax, .int .i64 ay] by exact ra) hu1; have RI1 : Row w1 (w.heap.size + 1 + 1) #[.int .i64 0, .slice none 0 0, .int .i64 0, .int .i64 0, .int .i64 0, .int .i64 0, .int .i64 0, .slice none 0 0, .int .i64 0, .int .i64 0, .int .i64 0, .int .i64 0, .slice none 0 0, .int .i64 0, .int .i64 0, .int .i64 0, .int .i64 0, .int .i64 0, .int .i64 0, .int .i64 0, .int .i64 0, .slice none 0 0] := Row.up (show Row _ (w.heap.size + 1 + 1) #[.int .i64 0, .slice none 0 0, .int .i64 0, .int .i64 0, .int .i64 0, .int .i64 0, .int .i64 0, .slice none 0 0, .int .i64 0, .int .i64 0, .int .i64 0, .int .i64 0, .slice none 0 0, .int .i64 0, .int .i64 0, .int .i64 0, .int .i64 0, .int .i64 0, .int .i64 0, .int .i64 0, .int .i64 0, .slice none 0 0] by exact ra) hu1; have la1 := RA1.lt; have a1_0 : w1.cell? ⟨w.heap.size + 1, 0, none⟩ = some (.int .i64 ax) := RA1.cell 0 rfl; have a1_1 : w1.cell? ⟨w.heap.size + 1, 1, none⟩ = some (.int .i64 ay) := RA1.cell 1 rfl))
  go_region
  all_goals go_wp2
  refine wp_region_held_drew (S := fun w' => w'.cell? ⟨w.heap.size, 6, none⟩ = some (.int .i64 1) ∧ w'.cell? ⟨w.heap.size, 7, none⟩ = some (.int .i64 0) ∧ w'.cell? ⟨w.heap.size, 8, none⟩ = some (.int .i64 0) ∧ w'.cell? ⟨w.heap.size, 9, none⟩ = some (.int .i64 0) ∧ w'.cell? ⟨w.heap.size, 10, none⟩ = some (.int .i64 0) ∧ w'.cell? ⟨w.heap.size, 17, none⟩ = some (.int .i64 fn) ∧ w'.cell? ⟨w.heap.size, 24, none⟩ = some (.slice ca cl cc) ∧ w'.cell? ⟨w1.heap.size, 0, none⟩ = some (.int .i64 mm.a) ∧ w'.cell? ⟨w1.heap.size, 1, none⟩ = some (.int .i64 mm.b) ∧ w'.cell? ⟨w1.heap.size, 2, none⟩ = some (.int .i64 mm.c) ∧ w'.cell? ⟨w1.heap.size, 3, none⟩ = some (.int .i64 mm.d) ∧ w'.cell? ⟨w1.heap.size, 4, none⟩ = some (.int .i64 ax) ∧ w'.cell? ⟨w1.heap.size, 5, none⟩ = some (.int .i64 ay)) (by kernel_rfl) ?_ (fun hHeld => ?_)
  · exact s13_of (show Row _ w.heap.size #[.int .i64 c.a, .int .i64 c.b, .int .i64 c.c, .int .i64 c.d, .int .i64 c.x, .int .i64 c.y, .int .i64 1, .int .i64 0, .int .i64 0, .int .i64 0, .int .i64 0, .int .i64 wd, .int .i64 0, .int .i64 0, .int .i64 655360, .slice none 0 0, .int .i64 ph, .int .i64 fn, .int .i64 fm.a, .int .i64 fm.b, .int .i64 fm.c, .int .i64 fm.d, .int .i64 fm.x, .int .i64 fm.y, .slice ca cl cc, .bool dk] from (by exact ra)) (show Row _ w1.heap.size #[.int .i64 mm.a, .int .i64 mm.b, .int .i64 mm.c, .int .i64 mm.d, .int .i64 ax, .int .i64 ay] from (by exact ra))
  refine wpAnyH_take (i := 0) (v := ?_) rfl (by kernel_rfl) (by kernel_rfl) (by kernel_rfl) (fun _ _ _ h => h) (Or.inl ⟨by rfl, ?_⟩) (by assumption) ?_
  rotate_left
  · intro w2 hSw
    (try dsimp only at hSw)
    obtain ⟨s0, s1, s2, s3, s4, s5, s6, s7, s8, s9, s10, s11, s12⟩ := hSw
    go_simp
    (try (with_reducible rfl))
  (try simp only [Act.put, lga, lgz, lgs, lsa, lsz, lss])
  refine wpAnyH_take (i := 2) (v := ?_) rfl (by kernel_rfl) (by kernel_rfl) (by kernel_rfl) (fun _ _ _ h => h) (Or.inl ⟨by rfl, ?_⟩) (by assumption) ?_
  rotate_left
  · intro w2 hSw
    (try dsimp only at hSw)
    obtain ⟨s0, s1, s2, s3, s4, s5, s6, s7, s8, s9, s10, s11, s12⟩ := hSw
    go_simp
    (try (with_reducible rfl))
  (try simp only [Act.put, lga, lgz, lgs, lsa, lsz, lss])
  refine wpAnyH_take (i := 4) (v := ?_) rfl (by kernel_rfl) (by kernel_rfl) (by kernel_rfl) (fun _ _ _ h => h) (Or.inl ⟨by rfl, ?_⟩) (by assumption) ?_
  rotate_left
  · intro w2 hSw
    (try dsimp only at hSw)
    obtain ⟨s0, s1, s2, s3, s4, s5, s6, s7, s8, s9, s10, s11, s12⟩ := hSw
    go_simp
    (try (with_reducible rfl))
  (try simp only [Act.put, lga, lgz, lgs, lsa, lsz, lss])
  refine wpAnyH_take (i := 7) (v := ?_) rfl (by kernel_rfl) (by kernel_rfl) (by kernel_rfl) (fun _ _ _ h => h) (Or.inl ⟨by rfl, ?_⟩) (by assumption) ?_
  rotate_left
  · intro w2 hSw
    (try dsimp only at hSw)
    obtain ⟨s0, s1, s2, s3, s4, s5, s6, s7, s8, s9, s10, s11, s12⟩ := hSw
    go_simp
    (try (with_reducible rfl))
  (try simp only [Act.put, lga, lgz, lgs, lsa, lsz, lss])
  refine wpAnyH_take (i := 1) (v := ?_) rfl (by kernel_rfl) (by kernel_rfl) (by kernel_rfl) (fun _ _ _ h => h) (Or.inl ⟨by rfl, ?_⟩) (by assumption) ?_
  rotate_left
  · intro w2 hSw
    (try dsimp only at hSw)
    obtain ⟨s0, s1, s2, s3, s4, s5, s6, s7, s8, s9, s10, s11, s12⟩ := hSw
    go_simp
    (try (with_reducible rfl))
  (try simp only [Act.put, lga, lgz, lgs, lsa, lsz, lss])
  refine wpAnyH_take (i := 3) (v := ?_) rfl (by kernel_rfl) (by kernel_rfl) (by kernel_rfl) (fun _ _ _ h => h) (Or.inl ⟨by rfl, ?_⟩) (by assumption) ?_
  rotate_left
  · intro w2 hSw
    (try dsimp only at hSw)
    obtain ⟨s0, s1, s2, s3, s4, s5, s6, s7, s8, s9, s10, s11, s12⟩ := hSw
    go_simp
    (try (with_reducible rfl))
  (try simp only [Act.put, lga, lgz, lgs, lsa, lsz, lss])
  refine wpAnyH_take (i := 5) (v := ?_) rfl (by kernel_rfl) (by kernel_rfl) (by kernel_rfl) (fun _ _ _ h => h) (Or.inl ⟨by rfl, ?_⟩) (by assumption) ?_
  rotate_left
  · intro w2 hSw
    (try dsimp only at hSw)
    obtain ⟨s0, s1, s2, s3, s4, s5, s6, s7, s8, s9, s10, s11, s12⟩ := hSw
    go_simp
    (try (with_reducible rfl))
  (try simp only [Act.put, lga, lgz, lgs, lsa, lsz, lss])
  refine wpAnyH_take (i := 6) (v := ?_) rfl (by kernel_rfl) (by kernel_rfl) (by kernel_rfl) (fun _ _ _ h => h) (Or.inl ⟨by rfl, ?_⟩) (by assumption) ?_
  rotate_left
  · intro w2 hSw
    (try dsimp only at hSw)
    obtain ⟨s0, s1, s2, s3, s4, s5, s6, s7, s8, s9, s10, s11, s12⟩ := hSw
    go_simp
    (try (with_reducible rfl))
  (try simp only [Act.put, lga, lgz, lgs, lsa, lsz, lss])
  refine wpAnyH_ready (rs := [8]) (by decide +kernel) (by simp) ?_
  refine AllReadyH.cons rfl (fun K hK => ?_) AllReadyH.nil
  (try simp only [lga, lgz, lgs])
  (go_simp; go_at_call 62; (with_reducible refine (bclone_calls v zs _ (HV.out.up (by exact ua)) hl).mono ?_); rintro E w4 ⟨vb, rfl, hvb, hu4, hown⟩; (obtain ⟨va, vcc, rfl⟩ : ∃ a1 c1, vb = .slice a1 zs.length c1 := by obtain ⟨a1, c1, h1, -⟩ := hvb; exact ⟨a1, c1, h1⟩); have z4 := hu4.size; (try simp at z4); (try simp at hown); have RS4 : Row w4 w.heap.size #[.int .i64 c.a, .int .i64 c.b, .int .i64 c.c, .int .i64 c.d, .int .i64 c.x, .int .i64 c.y, .int .i64 1, .int .i64 0, .int .i64 0, .int .i64 0, .int .i64 0, .int .i64 wd, .int .i64 0, .int .i64 0, .int .i64 655360, .slice none 0 0, .int .i64 ph, .int .i64 fn, .int .i64 fm.a, .int .i64 fm.b, .int .i64 fm.c, .int .i64 fm.d, .int .i64 fm.x, .int .i64 fm.y, .slice ca cl cc, .bool dk] := Row.up (show Row _ w.heap.size #[.int .i64 c.a, .int .i64 c.b, .int .i64 c.c, .int .i64 c.d, .int .i64 c.x, .int .i64 c.y, .int .i64 1, .int .i64 0, .int .i64 0, .int .i64 0, .int .i64 0, .int .i64 wd, .int .i64 0, .int .i64 0, .int .i64 655360, .slice none 0 0, .int .i64 ph, .int .i64 fn, .int .i64 fm.a, .int .i64 fm.b, .int .i64 fm.c, .int .i64 fm.d, .int .i64 fm.x, .int .i64 fm.y, .slice ca cl cc, .bool dk] by exact ra) hu4; have RM4 : Row w4 w1.heap.size #[.int .i64 mm.a, .int .i64 mm.b, .int .i64 mm.c, .int .i64 mm.d, .int .i64 ax, .int .i64 ay] := Row.up (show Row _ w1.heap.size #[.int .i64 mm.a, .int .i64 mm.b, .int .i64 mm.c, .int .i64 mm.d, .int .i64 ax, .int .i64 ay] by exact ra) hu4; have RI4 : Row w4 (w.heap.size + 1 + 1) #[.int .i64 0, .slice none 0 0, .int .i64 0, .int .i64 0, .int .i64 0, .int .i64 0, .int .i64 0, .slice none 0 0, .int .i64 0, .int .i64 0, .int .i64 0, .int .i64 0, .slice none 0 0, .int .i64 0, .int .i64 0, .int .i64 0, .int .i64 0, .int .i64 0, .int .i64 0, .int .i64 0, .int .i64 0, .slice none 0 0] := Row.up (show Row _ (w.heap.size + 1 + 1) #[.int .i64 0, .slice none 0 0, .int .i64 0, .int .i64 0, .int .i64 0, .int .i64 0, .int .i64 0, .slice none 0 0, .int .i64 0, .int .i64 0, .int .i64 0, .int .i64 0, .slice none 0 0, .int .i64 0, .int .i64 0, .int .i64 0, .int .i64 0, .int .i64 0, .int .i64 0, .int .i64 0, .int .i64 0, .slice none 0 0] by exact ra) hu4; have HVB := Lib.hid hvb; have u4 : Up w w4 := (by exact ua); (try dsimp only))
  refine hK.out _ _ ?_ (fun hHeld => ?_)
  · exact s13_of (RS4) (RM4)
  clear hK K
  (try simp only [Act.put, lga, lgz, lgs, lsa, lsz, lss])
  refine wpAnyH_take (i := 9) (v := ?_) rfl (by kernel_rfl) (by kernel_rfl) (by kernel_rfl) (fun _ _ _ h => h) (Or.inl ⟨by rfl, ?_⟩) (by assumption) ?_
  rotate_left
  · intro w2 hSw
    (try dsimp only at hSw)
    obtain ⟨s0, s1, s2, s3, s4, s5, s6, s7, s8, s9, s10, s11, s12⟩ := hSw
    go_simp
    (try (with_reducible rfl))
  (try simp only [Act.put, lga, lgz, lgs, lsa, lsz, lss])
  refine wpAnyH_ready (rs := [10]) (by decide +kernel) (by simp) ?_
  refine AllReadyH.cons rfl (fun K hK => ?_) AllReadyH.nil
  (try simp only [lga, lgz, lgs])
  (rw [if_pos (by rfl)]; refine wp_store_RowS 86 (.tmp 6) (.tmp 37) rfl (w.heap.size + 1 + 1) #[.int .i64 4, .slice none 0 0, .int .i64 1, .int .i64 0, .int .i64 0, .int .i64 0, .int .i64 0, .slice ca cl cc, .int .i64 0, .int .i64 0, .int .i64 0, .int .i64 0, .slice none 0 0, .int .i64 0, .int .i64 fn, .int .i64 mm.a, .int .i64 mm.b, .int .i64 mm.c, .int .i64 mm.d, .int .i64 ax, .int .i64 ay, .slice va zs.length vcc] rfl rfl #[.int .i64 0, .slice none 0 0, .int .i64 0, .int .i64 0, .int .i64 0, .int .i64 0, .int .i64 0, .slice none 0 0, .int .i64 0, .int .i64 0, .int .i64 0, .int .i64 0, .slice none 0 0, .int .i64 0, .int .i64 0, .int .i64 0, .int .i64 0, .int .i64 0, .int .i64 0, .int .i64 0, .int .i64 0, .slice none 0 0] RI4 infoIt rfl rfl (by simp [Value.oneCell']) ?_); intro we hr_we hc_we
  refine hK.out _ _ ?_ (fun hHeld => ?_)
  · exact s13_of (RS4.chg hc_we (by simp; omega)) (RM4.chg hc_we (by simp; omega))
  clear hK K
  (try simp only [Act.put, lga, lgz, lgs, lsa, lsz, lss])
  refine wpAnyH_take (i := 11) (v := ?_) rfl (by kernel_rfl) (by kernel_rfl) (by kernel_rfl) (fun _ _ _ h => h) (Or.inl ⟨by rfl, ?_⟩) (by assumption) ?_
  rotate_left
  · intro w2 hSw
    (try dsimp only at hSw)
    obtain ⟨s0, s1, s2, s3, s4, s5, s6, s7, s8, s9, s10, s11, s12⟩ := hSw
    go_simp
    (try (with_reducible rfl))
  (try simp only [Act.put, lga, lgz, lgs, lsa, lsz, lss])
  refine wpAnyH_done (by kernel_rfl) ?_ _
  (try simp only [Exit.inBlock, Exit.then])
  apply_assumption
  apply wp_ret
  refine bodyPost_ret (results_item _ _ (w.heap.size + 1 + 1) #[.int .i64 4, .slice none 0 0, .int .i64 1, .int .i64 0, .int .i64 0, .int .i64 0, .int .i64 0, .slice ca cl cc, .int .i64 0, .int .i64 0, .int .i64 0, .int .i64 0, .slice none 0 0, .int .i64 0, .int .i64 fn, .int .i64 mm.a, .int .i64 mm.b, .int .i64 mm.c, .int .i64 mm.d, .int .i64 ax, .int .i64 ay, .slice va zs.length vcc] 0 rfl rfl hr_we rfl) rfl ?_
  exact ⟨⟨va, vcc, rfl, ints_chg HVB.out hc_we (fun g hg => by have := hown g hg; omega)⟩, ((Chg.of_up (S := []) u4).call hc_we (fun k hk => by simp at hk; subst hk; exact Or.inr (by omega))).up⟩

end Go.Proofs.YtjdbefpfjhdmoaaDoor.Sh
end

section
namespace Go.Proofs.YtjdbefpfjhdmoaaDoor.Sh
open Go.Proofs.YtjdbefpfjhdmoaaDoor.ZGA
open Go.ChangeShapes Go.WideShapes Go.ChangeAt Go.RowKit
set_option linter.unusedVariables false
set_option linter.unusedSimpArgs false

theorem none_zero (w : World) : Calls Tryd.prog 88 #[.agg #[.int .i64 0, .int .i64 0, .int .i64 0, .int .i64 0, .slice none 0 0, .int .i64 0]] w fun E w' => E = .returned (.bool true) ∧ Up w w' := by
  go_enter Tryd.func88, Tryd.ntmps88
  go_wp2
  go_ret
  exact ⟨rfl, by exact ua⟩

set_option maxRecDepth 8000 in
theorem color_black (w : World) : Calls Tryd.prog 85 #[.agg #[.int .i64 1, .int .i64 0, .int .i64 0, .int .i64 0, .int .i64 0]] w fun E w' => E = .returned (.bool true) ∧ Up w w' := by
  have x0 : ∀ W : World, (Instr.index 31 (.agg #[.int .i64 0, .int .i64 0, .int .i64 0, .int .i64 0]) (.int .i64 0)).run Tryd.prog W = .ok (.int .i64 0) W := fun W => by kernel_rfl
  have x1 : ∀ W : World, (Instr.index 31 (.agg #[.int .i64 0, .int .i64 0, .int .i64 0, .int .i64 0]) (.int .i64 1)).run Tryd.prog W = .ok (.int .i64 0) W := fun W => by kernel_rfl
  have x2 : ∀ W : World, (Instr.index 31 (.agg #[.int .i64 0, .int .i64 0, .int .i64 0, .int .i64 0]) (.int .i64 2)).run Tryd.prog W = .ok (.int .i64 0) W := fun W => by kernel_rfl
  have x3 : ∀ W : World, (Instr.index 31 (.agg #[.int .i64 0, .int .i64 0, .int .i64 0, .int .i64 0]) (.int .i64 3)).run Tryd.prog W = .ok (.int .i64 0) W := fun W => by kernel_rfl
  go_enter Tryd.func85, Tryd.ntmps85
  go_wp2
  refine wp_loop_rounds 5 ?_
  repeat any_goals (rw [rounds_succ]; go_wp2)
  go_ret
  exact ⟨rfl, by exact ua⟩

theorem index_empty (a : Option Addr) (c : Nat) (f : Value) (w : World) : Calls Tryd.prog 107 #[.slice a 0 c, f] w fun E w' => E = .returned (.int .i64 (-1)) ∧ Up w w' := by
  go_enter Tryd.func107, Tryd.ntmps107
  go_wp2
  refine wp_loop_rounds 1 ?_
  repeat any_goals (rw [rounds_succ]; go_wp2)
  go_ret
  exact ⟨rfl, by exact ua⟩
theorem contains_empty (a : Option Addr) (c : Nat) (f : Value) (w : World) : Calls Tryd.prog 98 #[.slice a 0 c, f] w fun E w' => E = .returned (.bool false) ∧ Up w w' := by
  go_enter Tryd.func98, Tryd.ntmps98
  go_wp2_with (go_at_call 107; ((with_reducible refine (index_empty _ _ _ _).mono ?_); rintro E w1 ⟨rfl, hu1⟩))
  go_ret
  exact ⟨rfl, by exact ua⟩
theorem clips_empty (a : Option Addr) (c : Nat) (w : World) : Calls Tryd.prog 86 #[.slice a 0 c] w fun E w' => E = .returned (.bool true) ∧ Up w w' := by
  go_enter Tryd.func86, Tryd.ntmps86
  go_wp2_with (go_at_call 98; ((with_reducible refine (contains_empty _ _ _ _).mono ?_); rintro E w1 ⟨rfl, hu1⟩))
  go_ret
  exact ⟨rfl, by exact ua⟩

end Go.Proofs.YtjdbefpfjhdmoaaDoor.Sh
end

section
namespace Go.Proofs.YtjdbefpfjhdmoaaDoor.Sh
open Go.Proofs.YtjdbefpfjhdmoaaDoor.ZGA
open Go.ChangeShapes Go.WideShapes Go.ChangeAt Go.RowKit
open Go.Proofs.YtjdbefpfjhdmoaaDoor.Gs
open Go.Proofs.YtjdbefpfjhdmoaaDoor.FixM (fits)
open Go.Proofs.YtjdbefpfjhdmoaaDoor.MatM (M6)
set_option linter.unusedVariables false
set_option linter.unusedSimpArgs false

theorem letters1_calls (n : Int) (w : World) :
    Calls Tryd.prog 100 #[.int .i64 n] w fun e w' => e = .returned (.bool (!fits n)) ∧ w = w' := by
  go_enter Tryd.func100, Tryd.ntmps100
  go_wp2_with (go_at_call 54; ((with_reducible refine (Fix.fits_calls _ _).mono ?_); rintro e w' ⟨rfl, rfl⟩))
  go_ret
  exact ⟨rfl, rfl⟩

theorem index_letters (l : List Int) (b o c : Nat) (w : World) (hl : l.length ≤ 1000000000) (h : IntsAt w b o l) (hb : b < w.heap.size) :
    Calls Tryd.prog 92 #[.slice (some ⟨b, o, none⟩) l.length c, .func (.func 100) #[] #[]] w fun e w' => e = .returned (.int .i64 (idxI (fun n => !fits n) l)) ∧ Up w w' := by
  have HP := Lib.hid h
  clear h
  go_enter Tryd.func92, Tryd.ntmps92
  go_wp2
  go_loopw [8] (fun i wr => ∃ k : Nat, k ≤ l.length ∧ i = .int .i64 k ∧ (l.take k).any (fun n => !fits n) = false ∧ Up w wr) (fun i _ => l.length - (intOf i).toNat)
  case atStart => exact ⟨0, Nat.zero_le _, rfl, rfl, Up.refl _⟩
  case round =>
    obtain ⟨k, hk, rfl, hno, hup⟩ := hrel
    have HN := Lib.hid hno
    clear hno
    by_cases hlt : k < l.length
    · obtain ⟨x, hxy⟩ : ∃ x, l[k] = x := ⟨_, rfl⟩
      have hg : l[k]? = some x := by rw [List.getElem?_eq_getElem hlt, hxy]
      have hc0 := HP.out k x hg
      have hq0 := (hup.cells.1 b (o + k) hb).trans hc0
      have hz := hup.size
      clear hc0
      have HG := Lib.hid hg
      have HL := Lib.hid (And.intro hlt hxy)
      clear hg hxy
      obtain ⟨t, ht⟩ : ∃ t, (!fits x) = t := ⟨_, rfl⟩
      have HT := Lib.hid ht
      clear ht
      cases t
      · go_wp2_with (go_at_call 100; ((with_reducible refine (letters1_calls x _).mono ?_); rintro E w1 ⟨rfl, rfl⟩; rw [HT.out]))
        go_roundw
        case rel => exact ⟨k + 1, by omega, by go_num, by rw [List.take_succ_eq_append_getElem HL.out.1, List.any_append, HN.out, HL.out.2]; simpa using HT.out, by exact ua⟩
        case measure => have := HL.out.1; simp [intOf]; omega
      · have HE : Hid (idxI (fun n => !fits n) l = k) := Lib.hid (by
          have ha : l.any (fun n => !fits n) = true := List.any_eq_true.2 ⟨x, List.mem_of_getElem? HG.out, HT.out⟩
          unfold idxI
          rw [if_pos ha]
          congr 1
          rw [List.findIdx_eq HL.out.1]
          refine ⟨by rw [HL.out.2]; exact HT.out, fun j hj => ?_⟩
          have h1 := HN.out
          rw [List.any_eq_false] at h1
          have h2 := h1 (l[j]'(by have := HL.out.1; omega)) (List.mem_take_iff_getElem.2 ⟨j, by have := HL.out.1; omega, rfl⟩)
          simpa using h2)
        go_wp2_with (go_at_call 100; ((with_reducible refine (letters1_calls x _).mono ?_); rintro E w1 ⟨rfl, rfl⟩; rw [HT.out]))
        go_ret
        exact ⟨by rw [HE.out]; rfl, by exact ua⟩
    · have HE : Hid (idxI (fun n => !fits n) l = -1) := Lib.hid (by
        have := HN.out
        rw [List.take_of_length_le (by omega)] at this
        unfold idxI
        rw [this]
        rfl)
      go_wp2
      go_ret
      exact ⟨by rw [HE.out]; rfl, by exact ua⟩

theorem contains_letters (l : List Int) (b o c : Nat) (w : World) (hl : l.length ≤ 1000000000) (h : IntsAt w b o l) (hb : b < w.heap.size) :
    Calls Tryd.prog 70 #[.slice (some ⟨b, o, none⟩) l.length c, .func (.func 100) #[] #[]] w fun e w' => e = .returned (.bool (l.any (fun n => !fits n))) ∧ Up w w' := by
  have HI := Lib.hid (idxI_neg (fun n => !fits n) l)
  have HP := Lib.hid h
  clear h
  go_enter Tryd.func70, Tryd.ntmps70
  go_wp2_with (go_at_call 92; ((with_reducible refine (index_letters l b o c _ hl HP.out hb).mono ?_); rintro E w1 ⟨rfl, hu1⟩))
  go_ret
  exact ⟨by rw [← HI.out]; rfl, by exact ua⟩


theorem ints_mid {w : World} {b : Nat} {mm : M6} {cs : Array Value} (h : Row w b cs) (e0 : cs[15]? = some (.int .i64 mm.a)) (e1 : cs[16]? = some (.int .i64 mm.b)) (e2 : cs[17]? = some (.int .i64 mm.c)) (e3 : cs[18]? = some (.int .i64 mm.d)) (e4 : cs[19]? = some (.int .i64 mm.x)) (e5 : cs[20]? = some (.int .i64 mm.y)) : IntsAt w b 15 (lM mm) := fun i p hp => by
  match i with
  | 0 => simp [lM] at hp; subst hp; exact h.cell 15 e0
  | 1 => simp [lM] at hp; subst hp; exact h.cell 16 e1
  | 2 => simp [lM] at hp; subst hp; exact h.cell 17 e2
  | 3 => simp [lM] at hp; subst hp; exact h.cell 18 e3
  | 4 => simp [lM] at hp; subst hp; exact h.cell 19 e4
  | 5 => simp [lM] at hp; subst hp; exact h.cell 20 e5
  | i + 6 => simp [lM] at hp
theorem contains_letters6 (mm : M6) (b c : Nat) (w : World) (h : IntsAt w b 15 (lM mm)) (hb : b < w.heap.size) :
    Calls Tryd.prog 70 #[.slice (some ⟨b, 15, none⟩) 6 c, .func (.func 100) #[] #[]] w fun e w' => e = .returned (.bool ((lM mm).any fun n => !fits n)) ∧ Up w w' := contains_letters (lM mm) b 15 c w (by simp [lM]) h hb
set_option maxRecDepth 8000 in
set_option maxHeartbeats 1000000 in
theorem letters_calls (ca va : Option Addr) (cc len vcc : Nat) (fn : Int) (mm : M6) (h0 : 0 ≤ fn) (h1 : fn < 14) (hl1 : 1 ≤ len) (hl2 : len ≤ 65535) (w : World) (hT : Font.Tab w) :
    Calls Tryd.prog 87 #[.agg #[.int .i64 4, .slice none 0 0, .int .i64 1, .int .i64 0, .int .i64 0, .int .i64 0, .int .i64 0, .slice ca 0 cc, .int .i64 0, .int .i64 0, .int .i64 0, .int .i64 0, .slice none 0 0, .int .i64 0, .int .i64 fn, .int .i64 mm.a, .int .i64 mm.b, .int .i64 mm.c, .int .i64 mm.d, .int .i64 mm.x, .int .i64 mm.y, .slice va len vcc]] w fun E w' => E = .returned (.bool (!(lM mm).any fun n => !fits n)) ∧ Up w w' := by
  have HT := Lib.hid hT
  clear hT
  have t1 : decide ((1 : Int) ≤ (len : Int)) = true := decide_eq_true (by omega)
  have t2 : decide ((len : Int) ≤ 65535) = true := decide_eq_true (by omega)
  obtain ⟨wl, hw, hne⟩ := names_some fn h0 h1
  have HWL := Lib.hid hw
  have h2 : wl.isEmpty = false := by simpa using hne
  obtain ⟨r, hr⟩ : ∃ r, ((lM mm).any fun n => !fits n) = r := ⟨_, rfl⟩
  have HRR := Lib.hid hr
  clear hw
  rw [hr]
  clear hr
  go_enter Tryd.func87, Tryd.ntmps87
  go_wp2_with (first
    | (go_at_call 45; ((with_reducible refine (Font.name_calls _ _ (HT.out.up (by exact ua))).mono ?_); rw [HWL.out]; rintro E w1 ⟨rfl, rfl⟩))
    | (go_at_call 70; ((with_reducible refine (contains_letters6 mm w.heap.size _ _ (ints_mid (show Row _ w.heap.size #[.int .i64 4, .slice none 0 0, .int .i64 1, .int .i64 0, .int .i64 0, .int .i64 0, .int .i64 0, .slice ca 0 cc, .int .i64 0, .int .i64 0, .int .i64 0, .int .i64 0, .slice none 0 0, .int .i64 0, .int .i64 fn, .int .i64 mm.a, .int .i64 mm.b, .int .i64 mm.c, .int .i64 mm.d, .int .i64 mm.x, .int .i64 mm.y, .slice va len vcc] by exact ra) rfl rfl rfl rfl rfl rfl) (by simp)).mono ?_); rw [HRR.out]; rintro E w2 ⟨rfl, hu2⟩)))
  go_ret
  exact ⟨rfl, by exact ua⟩

end Go.Proofs.YtjdbefpfjhdmoaaDoor.Sh
end

section
namespace Go.Proofs.YtjdbefpfjhdmoaaDoor.Sh
open Go.Proofs.YtjdbefpfjhdmoaaDoor.ZGA
open Go.ChangeShapes Go.WideShapes Go.ChangeAt Go.RowKit
open Go.Proofs.YtjdbefpfjhdmoaaDoor.Gs
open Go.Proofs.YtjdbefpfjhdmoaaDoor.FixM (fits)
open Go.Proofs.YtjdbefpfjhdmoaaDoor.MatM (M6)
set_option linter.unusedVariables false
set_option linter.unusedSimpArgs false

set_option maxRecDepth 8000 in
set_option maxHeartbeats 2000000 in
theorem item_calls (ca va : Option Addr) (cc len vcc : Nat) (fn : Int) (mm : M6) (h0 : 0 ≤ fn) (h1 : fn < 14) (hl1 : 1 ≤ len) (hl2 : len ≤ 65535) (w : World) (hT : Font.Tab w) :
    Calls Tryd.prog 63 #[.agg #[.int .i64 4, .slice none 0 0, .int .i64 1, .int .i64 0, .int .i64 0, .int .i64 0, .int .i64 0, .slice ca 0 cc, .int .i64 0, .int .i64 0, .int .i64 0, .int .i64 0, .slice none 0 0, .int .i64 0, .int .i64 fn, .int .i64 mm.a, .int .i64 mm.b, .int .i64 mm.c, .int .i64 mm.d, .int .i64 mm.x, .int .i64 mm.y, .slice va len vcc]] w fun E w' => E = .returned (.bool (!(lM mm).any fun n => !fits n)) ∧ Up w w' := by
  have HT := Lib.hid hT
  clear hT
  obtain ⟨r, hr⟩ : ∃ r, (!(lM mm).any fun n => !fits n) = r := ⟨_, rfl⟩
  have HRR := Lib.hid hr
  rw [hr]
  clear hr
  cases r
  all_goals
    go_enter Tryd.func63, Tryd.ntmps63
    go_wp2_with (first
      | (go_at_call 85; ((with_reducible refine (color_black _).mono ?_); rintro E w1 ⟨rfl, hu1⟩; have z1 := hu1.size; (try simp at z1); have Rw1 : Row w1 w.heap.size #[.int .i64 4, .slice none 0 0, .int .i64 1, .int .i64 0, .int .i64 0, .int .i64 0, .int .i64 0, .slice ca 0 cc, .int .i64 0, .int .i64 0, .int .i64 0, .int .i64 0, .slice none 0 0, .int .i64 0, .int .i64 fn, .int .i64 mm.a, .int .i64 mm.b, .int .i64 mm.c, .int .i64 mm.d, .int .i64 mm.x, .int .i64 mm.y, .slice va len vcc] := Row.up (show Row _ w.heap.size #[.int .i64 4, .slice none 0 0, .int .i64 1, .int .i64 0, .int .i64 0, .int .i64 0, .int .i64 0, .slice ca 0 cc, .int .i64 0, .int .i64 0, .int .i64 0, .int .i64 0, .slice none 0 0, .int .i64 0, .int .i64 fn, .int .i64 mm.a, .int .i64 mm.b, .int .i64 mm.c, .int .i64 mm.d, .int .i64 mm.x, .int .i64 mm.y, .slice va len vcc] by exact ra) hu1; have lw1 := Rw1.lt; have qw1_0 : w1.cell? ⟨w.heap.size, 0, none⟩ = some (.int .i64 4) := Rw1.cell 0 rfl; have qw1_1 : w1.cell? ⟨w.heap.size, 1, none⟩ = some (.slice none 0 0) := Rw1.cell 1 rfl; have qw1_7 : w1.cell? ⟨w.heap.size, 7, none⟩ = some (.slice ca 0 cc) := Rw1.cell 7 rfl; have qw1_8 : w1.cell? ⟨w.heap.size, 8, none⟩ = some (.int .i64 0) := Rw1.cell 8 rfl; have qw1_9 : w1.cell? ⟨w.heap.size, 9, none⟩ = some (.int .i64 0) := Rw1.cell 9 rfl; have qw1_10 : w1.cell? ⟨w.heap.size, 10, none⟩ = some (.int .i64 0) := Rw1.cell 10 rfl; have qw1_11 : w1.cell? ⟨w.heap.size, 11, none⟩ = some (.int .i64 0) := Rw1.cell 11 rfl; have qw1_12 : w1.cell? ⟨w.heap.size, 12, none⟩ = some (.slice none 0 0) := Rw1.cell 12 rfl; have qw1_13 : w1.cell? ⟨w.heap.size, 13, none⟩ = some (.int .i64 0) := Rw1.cell 13 rfl))
      | (go_at_call 86; ((with_reducible refine (clips_empty _ _ _).mono ?_); rintro E w2 ⟨rfl, hu2⟩; have z2 := hu2.size; have Rw2 : Row w2 w.heap.size #[.int .i64 4, .slice none 0 0, .int .i64 1, .int .i64 0, .int .i64 0, .int .i64 0, .int .i64 0, .slice ca 0 cc, .int .i64 0, .int .i64 0, .int .i64 0, .int .i64 0, .slice none 0 0, .int .i64 0, .int .i64 fn, .int .i64 mm.a, .int .i64 mm.b, .int .i64 mm.c, .int .i64 mm.d, .int .i64 mm.x, .int .i64 mm.y, .slice va len vcc] := Row.up (show Row _ w.heap.size #[.int .i64 4, .slice none 0 0, .int .i64 1, .int .i64 0, .int .i64 0, .int .i64 0, .int .i64 0, .slice ca 0 cc, .int .i64 0, .int .i64 0, .int .i64 0, .int .i64 0, .slice none 0 0, .int .i64 0, .int .i64 fn, .int .i64 mm.a, .int .i64 mm.b, .int .i64 mm.c, .int .i64 mm.d, .int .i64 mm.x, .int .i64 mm.y, .slice va len vcc] by exact ra) hu2; have lw2 := Rw2.lt; have qw2_0 : w2.cell? ⟨w.heap.size, 0, none⟩ = some (.int .i64 4) := Rw2.cell 0 rfl; have qw2_1 : w2.cell? ⟨w.heap.size, 1, none⟩ = some (.slice none 0 0) := Rw2.cell 1 rfl; have qw2_7 : w2.cell? ⟨w.heap.size, 7, none⟩ = some (.slice ca 0 cc) := Rw2.cell 7 rfl; have qw2_8 : w2.cell? ⟨w.heap.size, 8, none⟩ = some (.int .i64 0) := Rw2.cell 8 rfl; have qw2_9 : w2.cell? ⟨w.heap.size, 9, none⟩ = some (.int .i64 0) := Rw2.cell 9 rfl; have qw2_10 : w2.cell? ⟨w.heap.size, 10, none⟩ = some (.int .i64 0) := Rw2.cell 10 rfl; have qw2_11 : w2.cell? ⟨w.heap.size, 11, none⟩ = some (.int .i64 0) := Rw2.cell 11 rfl; have qw2_12 : w2.cell? ⟨w.heap.size, 12, none⟩ = some (.slice none 0 0) := Rw2.cell 12 rfl; have qw2_13 : w2.cell? ⟨w.heap.size, 13, none⟩ = some (.int .i64 0) := Rw2.cell 13 rfl))
      | (refine wpList_load_Row rfl 86 (.tmp 1) rfl (w.heap.size) rfl #[.int .i64 4, .slice none 0 0, .int .i64 1, .int .i64 0, .int .i64 0, .int .i64 0, .int .i64 0, .slice ca 0 cc, .int .i64 0, .int .i64 0, .int .i64 0, .int .i64 0, .slice none 0 0, .int .i64 0, .int .i64 fn, .int .i64 mm.a, .int .i64 mm.b, .int .i64 mm.c, .int .i64 mm.d, .int .i64 mm.x, .int .i64 mm.y, .slice va len vcc] _ Rw2 Tryd.underlying86 rfl infoIt rfl ?_)
      | (go_at_call 87; ((with_reducible refine (letters_calls ca va cc len vcc fn mm h0 h1 hl1 hl2 _ (HT.out.up (by exact ua))).mono ?_); rw [HRR.out]; rintro E w3 ⟨rfl, hu3⟩; have z3 := hu3.size; have Rw3 : Row w3 w.heap.size #[.int .i64 4, .slice none 0 0, .int .i64 1, .int .i64 0, .int .i64 0, .int .i64 0, .int .i64 0, .slice ca 0 cc, .int .i64 0, .int .i64 0, .int .i64 0, .int .i64 0, .slice none 0 0, .int .i64 0, .int .i64 fn, .int .i64 mm.a, .int .i64 mm.b, .int .i64 mm.c, .int .i64 mm.d, .int .i64 mm.x, .int .i64 mm.y, .slice va len vcc] := Row.up (show Row _ w.heap.size #[.int .i64 4, .slice none 0 0, .int .i64 1, .int .i64 0, .int .i64 0, .int .i64 0, .int .i64 0, .slice ca 0 cc, .int .i64 0, .int .i64 0, .int .i64 0, .int .i64 0, .slice none 0 0, .int .i64 0, .int .i64 fn, .int .i64 mm.a, .int .i64 mm.b, .int .i64 mm.c, .int .i64 mm.d, .int .i64 mm.x, .int .i64 mm.y, .slice va len vcc] by exact ra) hu3; have lw3 := Rw3.lt; have qw3_0 : w3.cell? ⟨w.heap.size, 0, none⟩ = some (.int .i64 4) := Rw3.cell 0 rfl; have qw3_1 : w3.cell? ⟨w.heap.size, 1, none⟩ = some (.slice none 0 0) := Rw3.cell 1 rfl; have qw3_7 : w3.cell? ⟨w.heap.size, 7, none⟩ = some (.slice ca 0 cc) := Rw3.cell 7 rfl; have qw3_8 : w3.cell? ⟨w.heap.size, 8, none⟩ = some (.int .i64 0) := Rw3.cell 8 rfl; have qw3_9 : w3.cell? ⟨w.heap.size, 9, none⟩ = some (.int .i64 0) := Rw3.cell 9 rfl; have qw3_10 : w3.cell? ⟨w.heap.size, 10, none⟩ = some (.int .i64 0) := Rw3.cell 10 rfl; have qw3_11 : w3.cell? ⟨w.heap.size, 11, none⟩ = some (.int .i64 0) := Rw3.cell 11 rfl; have qw3_12 : w3.cell? ⟨w.heap.size, 12, none⟩ = some (.slice none 0 0) := Rw3.cell 12 rfl; have qw3_13 : w3.cell? ⟨w.heap.size, 13, none⟩ = some (.int .i64 0) := Rw3.cell 13 rfl))
      | (go_at_call 88; ((with_reducible refine (none_zero _).mono ?_); rintro E w4 ⟨rfl, hu4⟩)))
    go_ret
    exact ⟨rfl, by exact ua⟩

end Go.Proofs.YtjdbefpfjhdmoaaDoor.Sh
end
