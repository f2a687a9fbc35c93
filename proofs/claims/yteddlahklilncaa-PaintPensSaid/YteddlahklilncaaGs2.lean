/- Package gstate: Start, New, own, Now, Path of a state in which nothing is saved and nothing clips. No condition. -/
import Derived.Test.YteddlahklilncaaGs
namespace Go.Proofs.Yteddlahklilncaa.Gs
open Go.ChangeShapes Go.WideShapes Go.RowKit
open Go.Proofs.Yteddlahklilncaa.FixM (fits)
open Go.Proofs.Yteddlahklilncaa.MatM (M6)
open Go.Proofs.Yteddlahklilncaa.PathM
set_option linter.unusedVariables false
set_option linter.unusedSimpArgs false

theorem results_st {fn : Func} {i : Nat} (h : fn.results = #[.cell i 64]) (tmps : Array Value) (w : World) (b : Nat) (cs : Array Value) (hr : Row w b cs) (hs : cs.size = 26) (e : tmps.getD i undef = .pointer (some ⟨b, 0, none⟩)) :
    (results fn tmps).run Try.prog w = .ok (.agg cs) w := by
  rw [Array.getD_eq_getD_getElem?] at e
  have hl := run_loadAt_mid (P := Try.prog) w b 0 64 cs.toList _ (fun j v hj => by rw [Nat.zero_add]; exact hr.cell j (by simpa using hj)) Try.underlying64 rfl (by rw [Array.length_toList, hs]; kernel_rfl)
  simp [results, h, go_sem, e] at hl ⊢
  exact hl

theorem cast {w : World} {b : Nat} {cs cs2 : Array Value} (h : Row w b cs) (e : cs = cs2) : Row w b cs2 := e ▸ h
theorem infoSt : (Try.prog.info? 64).map (·.size) = some 26 := by kernel_rfl
def stC (c : M6) (wd : Int) (dash : Value) (ph fn : Int) (fm : M6) (clips : Value) (dk : Bool) : Array Value := #[.int .i64 c.a, .int .i64 c.b, .int .i64 c.c, .int .i64 c.d, .int .i64 c.x, .int .i64 c.y, .int .i64 1, .int .i64 0, .int .i64 0, .int .i64 0, .int .i64 0, .int .i64 wd, .int .i64 0, .int .i64 0, .int .i64 655360, dash, .int .i64 ph, .int .i64 fn, .int .i64 fm.a, .int .i64 fm.b, .int .i64 fm.c, .int .i64 fm.d, .int .i64 fm.x, .int .i64 fm.y, clips, .bool dk]
def gsC (c : M6) (wd : Int) (dash : Value) (ph fn : Int) (fm : M6) (dk : Bool) (p : Nat) (most segs : Int) : Array Value := #[.int .i64 c.a, .int .i64 c.b, .int .i64 c.c, .int .i64 c.d, .int .i64 c.x, .int .i64 c.y, .int .i64 1, .int .i64 0, .int .i64 0, .int .i64 0, .int .i64 0, .int .i64 wd, .int .i64 0, .int .i64 0, .int .i64 655360, dash, .int .i64 ph, .int .i64 fn, .int .i64 fm.a, .int .i64 fm.b, .int .i64 fm.c, .int .i64 fm.d, .int .i64 fm.x, .int .i64 fm.y, .slice none 0 0, .bool dk, .pointer (some ⟨p, 0, none⟩), .int .i64 most, .int .i64 segs, .slice none 0 0]
def idM : M6 := ⟨65536, 0, 0, 65536, 0, 0⟩

set_option maxRecDepth 8000 in
theorem start_calls (w : World) : Calls Try.prog 17 #[] w fun E w' => E = .returned (.agg #[.int .i64 65536, .int .i64 0, .int .i64 0, .int .i64 65536, .int .i64 0, .int .i64 0, .int .i64 1, .int .i64 0, .int .i64 0, .int .i64 0, .int .i64 0, .int .i64 65536, .int .i64 0, .int .i64 0, .int .i64 655360, .slice none 0 0, .int .i64 0, .int .i64 (-1), .int .i64 65536, .int .i64 0, .int .i64 0, .int .i64 65536, .int .i64 0, .int .i64 0, .slice none 0 0, .bool false]) ∧ Up w w' := by
  go_enter Try.func17, Try.ntmps17
  go_wp2_with (first
    | (go_at_call 35; ((with_reducible refine (Mat2.identity_calls _).mono ?_); rintro E w1 ⟨rfl, hu1⟩; have RZ1 : Row w1 w.heap.size #[.int .i64 0, .int .i64 0, .int .i64 0, .int .i64 0, .int .i64 0, .int .i64 0, .int .i64 0, .int .i64 0, .int .i64 0, .int .i64 0, .int .i64 0, .int .i64 0, .int .i64 0, .int .i64 0, .int .i64 0, .slice none 0 0, .int .i64 0, .int .i64 0, .int .i64 0, .int .i64 0, .int .i64 0, .int .i64 0, .int .i64 0, .int .i64 0, .slice none 0 0, .bool false] := Row.up (show Row _ w.heap.size #[.int .i64 0, .int .i64 0, .int .i64 0, .int .i64 0, .int .i64 0, .int .i64 0, .int .i64 0, .int .i64 0, .int .i64 0, .int .i64 0, .int .i64 0, .int .i64 0, .int .i64 0, .int .i64 0, .int .i64 0, .slice none 0 0, .int .i64 0, .int .i64 0, .int .i64 0, .int .i64 0, .int .i64 0, .int .i64 0, .int .i64 0, .int .i64 0, .slice none 0 0, .bool false] by (repeat' (first | (with_reducible assumption) | (with_reducible refine Row.at _ _ ?_; (simp; done)) | (with_reducible refine Row.alloc ?_ _) | (with_reducible refine Row.drew ?_) | (with_reducible refine Row.drewN ?_ _) | (with_reducible refine Row.other ?_ (by first | (simp; done) | (simp; omega) | omega) _) | (with_reducible refine Row.up ?_ (by with_reducible assumption)) | (with_reducible refine Row.chg ?_ (by with_reducible assumption) (by first | (simp; done) | (simp; omega)))))) hu1; have z1 := hu1.size; (try simp at z1)))
    | (go_at_call 35; ((with_reducible refine (Mat2.identity_calls _).mono ?_); rintro E w2 ⟨rfl, hu2⟩; have RZ2 := RZ1.up hu2; have z2 := hu2.size; (try simp at z2)))
    | ((refine wpList_store_Row rfl 64 (.tmp 0) _ rfl (w.heap.size) #[.int .i64 65536, .int .i64 0, .int .i64 0, .int .i64 65536, .int .i64 0, .int .i64 0, .int .i64 1, .int .i64 0, .int .i64 0, .int .i64 0, .int .i64 0, .int .i64 65536, .int .i64 0, .int .i64 0, .int .i64 655360, .slice none 0 0, .int .i64 0, .int .i64 (-1), .int .i64 65536, .int .i64 0, .int .i64 0, .int .i64 65536, .int .i64 0, .int .i64 0, .slice none 0 0, .bool false] rfl rfl #[.int .i64 0, .int .i64 0, .int .i64 0, .int .i64 0, .int .i64 0, .int .i64 0, .int .i64 0, .int .i64 0, .int .i64 0, .int .i64 0, .int .i64 0, .int .i64 0, .int .i64 0, .int .i64 0, .int .i64 0, .slice none 0 0, .int .i64 0, .int .i64 0, .int .i64 0, .int .i64 0, .int .i64 0, .int .i64 0, .int .i64 0, .int .i64 0, .slice none 0 0, .bool false] (by (repeat' (first | (with_reducible assumption) | (with_reducible refine Row.at _ _ ?_; (simp; done)) | (with_reducible refine Row.alloc ?_ _) | (with_reducible refine Row.drew ?_) | (with_reducible refine Row.drewN ?_ _) | (with_reducible refine Row.other ?_ (by first | (simp; done) | (simp; omega) | omega) _) | (with_reducible refine Row.up ?_ (by with_reducible assumption)) | (with_reducible refine Row.chg ?_ (by with_reducible assumption) (by first | (simp; done) | (simp; omega)))))) infoSt rfl rfl (by simp [Value.oneCell']) ?_); intro w9 hr_w9 hc_w9))
  (try simp only [Exit.inBlock, Exit.then])
  refine bodyPost_ret (results_st rfl _ _ w.heap.size #[.int .i64 65536, .int .i64 0, .int .i64 0, .int .i64 65536, .int .i64 0, .int .i64 0, .int .i64 1, .int .i64 0, .int .i64 0, .int .i64 0, .int .i64 0, .int .i64 65536, .int .i64 0, .int .i64 0, .int .i64 655360, .slice none 0 0, .int .i64 0, .int .i64 (-1), .int .i64 65536, .int .i64 0, .int .i64 0, .int .i64 65536, .int .i64 0, .int .i64 0, .slice none 0 0, .bool false] (by (repeat' (first | (with_reducible assumption) | (with_reducible refine Row.at _ _ ?_; (simp; done)) | (with_reducible refine Row.alloc ?_ _) | (with_reducible refine Row.drew ?_) | (with_reducible refine Row.drewN ?_ _) | (with_reducible refine Row.other ?_ (by first | (simp; done) | (simp; omega) | omega) _) | (with_reducible refine Row.up ?_ (by with_reducible assumption)) | (with_reducible refine Row.chg ?_ (by with_reducible assumption) (by first | (simp; done) | (simp; omega)))))) rfl rfl) rfl ?_
  exact ⟨rfl, (show Chg [] w w9 by (repeat' (first | (with_reducible exact Chg.refl _ _) | (with_reducible assumption) | (with_reducible refine Chg.alloc ?_ _) | (with_reducible refine Chg.drew ?_) | (with_reducible refine Chg.drewN ?_ _) | (with_reducible refine Chg.setCell ?_ ?_ _) | (with_reducible refine Chg.upc ?_ (by with_reducible assumption)) | (with_reducible refine Chg.call ?_ (by with_reducible assumption) ?_) | (refine Or.inl ?_; (simp; done)) | (simp; done) | (simp; omega) | omega))).up⟩

set_option maxRecDepth 8000 in
theorem gnew_calls (most segs : Int) (w : World) : Calls Try.prog 5 #[.int .i64 most, .int .i64 segs] w fun E w' => ∃ b p, E = .returned (.pointer (some ⟨b, 0, none⟩)) ∧ w.heap.size ≤ b ∧ w.heap.size ≤ p ∧ p ≠ b ∧ Row w' b (gsC idM 65536 (.slice none 0 0) 0 (-1) idM false p most segs) ∧ Path.PathIs w' p (.slice none 0 0) ⟨segs, [], Z, Z⟩ ∧ Up w w' := by
  go_enter Try.func5, Try.ntmps5
  go_wp2_with (first
    | (go_at_call 17; ((with_reducible refine (start_calls _).mono ?_); rintro E w1 ⟨rfl, hu1⟩; have z1 := hu1.size))
    | (go_at_call 18; ((with_reducible refine (Path.new_calls segs _).mono ?_); rintro E w2 ⟨rfl, hu2, hp2⟩; have HP := Lib.hid hp2; have z2 := hu2.size; have l2 := hp2.row.lt; clear hp2)))
  go_ret
  exact ⟨w2.heap.size, w1.heap.size, rfl, by omega, by omega, by omega, (show Row _ _ #[.int .i64 65536, .int .i64 0, .int .i64 0, .int .i64 65536, .int .i64 0, .int .i64 0, .int .i64 1, .int .i64 0, .int .i64 0, .int .i64 0, .int .i64 0, .int .i64 65536, .int .i64 0, .int .i64 0, .int .i64 655360, .slice none 0 0, .int .i64 0, .int .i64 (-1), .int .i64 65536, .int .i64 0, .int .i64 0, .int .i64 65536, .int .i64 0, .int .i64 0, .slice none 0 0, .bool false, .pointer (some ⟨w1.heap.size, 0, none⟩), .int .i64 most, .int .i64 segs, .slice none 0 0] by (repeat' (first | (with_reducible assumption) | (with_reducible refine Row.at _ _ ?_; (simp; done)) | (with_reducible refine Row.alloc ?_ _) | (with_reducible refine Row.drew ?_) | (with_reducible refine Row.drewN ?_ _) | (with_reducible refine Row.other ?_ (by first | (simp; done) | (simp; omega) | omega) _) | (with_reducible refine Row.up ?_ (by with_reducible assumption)) | (with_reducible refine Row.chg ?_ (by with_reducible assumption) (by first | (simp; done) | (simp; omega)))))), HP.out.up (by (repeat' (first | (with_reducible exact Up.refl _) | (with_reducible assumption) | (with_reducible refine Up.alloc ?_ _) | (with_reducible refine Up.drew ?_) | (with_reducible refine Up.drewN ?_ _) | (with_reducible refine Up.setCell ?_ ?_ _) | (with_reducible refine Up.call ?_ (by with_reducible assumption)) | go_size))), by (repeat' (first | (with_reducible exact Up.refl _) | (with_reducible assumption) | (with_reducible refine Up.alloc ?_ _) | (with_reducible refine Up.drew ?_) | (with_reducible refine Up.drewN ?_ _) | (with_reducible refine Up.setCell ?_ ?_ _) | (with_reducible refine Up.call ?_ (by with_reducible assumption)) | go_size))⟩

set_option maxRecDepth 8000 in
theorem cloneI_nil (w : World) : Calls Try.prog 25 #[.slice none 0 0] w fun E w' => E = .returned (.slice none 0 0) ∧ Up w w' := by
  have heq := fun w => Lib.run_eql_slice_nil (P := Try.prog) w 34 3 none 0 0 0 0 Try.underlying34
  go_enter Try.func25, Try.ntmps25
  go_wp2
  go_ret
  exact ⟨rfl, by (repeat' (first | (with_reducible exact Up.refl _) | (with_reducible assumption) | (with_reducible refine Up.alloc ?_ _) | (with_reducible refine Up.drew ?_) | (with_reducible refine Up.drewN ?_ _) | (with_reducible refine Up.setCell ?_ ?_ _) | (with_reducible refine Up.call ?_ (by with_reducible assumption)) | go_size))⟩

set_option maxRecDepth 8000 in
theorem path_calls (b : Nat) (p : Nat) (w : World) (h : w.cell? ⟨b, 26, none⟩ = some (.pointer (some ⟨p, 0, none⟩))) :
    Calls Try.prog 10 #[.pointer (some ⟨b, 0, none⟩)] w fun E w' => E = .returned (.pointer (some ⟨p, 0, none⟩)) ∧ w = w' := by
  go_enter Try.func10, Try.ntmps10
  go_wp2
  go_ret
  exact ⟨rfl, rfl⟩

/-- a copy of a plain state shares nothing -/
def OwnSt (w : World) (c : M6) (wd ph fn : Int) (fm : M6) (dk : Bool) (E : Ending) (w' : World) : Prop := ∃ gc, w.heap.size ≤ gc ∧ gc < w'.heap.size ∧ E = .returned (.agg (stC c wd (.slice none 0 0) ph fn fm (.slice (some ⟨gc, 0, none⟩) 0 0) dk))
set_option maxRecDepth 8000 in
set_option maxHeartbeats 1000000 in
theorem own_calls (c : M6) (wd ph fn : Int) (fm : M6) (dk : Bool) (w : World) :
    Calls Try.prog 45 #[.agg (stC c wd (.slice none 0 0) ph fn fm (.slice none 0 0) dk)] w fun E w' => OwnSt w c wd ph fn fm dk E w' ∧ Up w w' := by
  show Calls Try.prog 45 #[.agg #[.int .i64 c.a, .int .i64 c.b, .int .i64 c.c, .int .i64 c.d, .int .i64 c.x, .int .i64 c.y, .int .i64 1, .int .i64 0, .int .i64 0, .int .i64 0, .int .i64 0, .int .i64 wd, .int .i64 0, .int .i64 0, .int .i64 655360, .slice none 0 0, .int .i64 ph, .int .i64 fn, .int .i64 fm.a, .int .i64 fm.b, .int .i64 fm.c, .int .i64 fm.d, .int .i64 fm.x, .int .i64 fm.y, .slice none 0 0, .bool dk]] w _
  have hmk : ∀ W : World, (Instr.makeSlice 52 (.int .i64 0) (.int .i64 0)).run Try.prog W = .ok (.slice (some ⟨W.heap.size, 0, none⟩) 0 0) (W.alloc (.cells #[] 118)) := fun _ => by kernel_rfl
  go_enter Try.func45, Try.ntmps45
  go_wp2_with (first
    | (go_at_call 25; ((with_reducible refine (cloneI_nil _).mono ?_); rintro E w1 ⟨rfl, hu1⟩; have k_w1 := hu1.cells.1; have f_w1 := hu1.cells.2; have z_w1 := hu1.size; (try simp at z_w1); have l0_w1 : w.heap.size < w1.heap.size := (by omega); have l1_w1 : w.heap.size + 1 < w1.heap.size := (by omega); have RX1 : Row w1 w.heap.size #[.int .i64 c.a, .int .i64 c.b, .int .i64 c.c, .int .i64 c.d, .int .i64 c.x, .int .i64 c.y, .int .i64 1, .int .i64 0, .int .i64 0, .int .i64 0, .int .i64 0, .int .i64 wd, .int .i64 0, .int .i64 0, .int .i64 655360, .slice none 0 0, .int .i64 ph, .int .i64 fn, .int .i64 fm.a, .int .i64 fm.b, .int .i64 fm.c, .int .i64 fm.d, .int .i64 fm.x, .int .i64 fm.y, .slice none 0 0, .bool dk] := Row.up (show Row _ w.heap.size #[.int .i64 c.a, .int .i64 c.b, .int .i64 c.c, .int .i64 c.d, .int .i64 c.x, .int .i64 c.y, .int .i64 1, .int .i64 0, .int .i64 0, .int .i64 0, .int .i64 0, .int .i64 wd, .int .i64 0, .int .i64 0, .int .i64 655360, .slice none 0 0, .int .i64 ph, .int .i64 fn, .int .i64 fm.a, .int .i64 fm.b, .int .i64 fm.c, .int .i64 fm.d, .int .i64 fm.x, .int .i64 fm.y, .slice none 0 0, .bool dk] by (repeat' (first | (with_reducible assumption) | (with_reducible refine Row.at _ _ ?_; (simp; done)) | (with_reducible refine Row.alloc ?_ _) | (with_reducible refine Row.drew ?_) | (with_reducible refine Row.drewN ?_ _) | (with_reducible refine Row.other ?_ (by first | (simp; done) | (simp; omega) | omega) _) | (with_reducible refine Row.up ?_ (by with_reducible assumption)) | (with_reducible refine Row.chg ?_ (by with_reducible assumption) (by first | (simp; done) | (simp; omega)))))) hu1; have RY1 : Row w1 (w.heap.size + 1) #[.int .i64 0, .int .i64 0, .int .i64 0, .int .i64 0, .int .i64 0, .int .i64 0, .int .i64 0, .int .i64 0, .int .i64 0, .int .i64 0, .int .i64 0, .int .i64 0, .int .i64 0, .int .i64 0, .int .i64 0, .slice none 0 0, .int .i64 0, .int .i64 0, .int .i64 0, .int .i64 0, .int .i64 0, .int .i64 0, .int .i64 0, .int .i64 0, .slice none 0 0, .bool false] := Row.up (show Row _ (w.heap.size + 1) #[.int .i64 0, .int .i64 0, .int .i64 0, .int .i64 0, .int .i64 0, .int .i64 0, .int .i64 0, .int .i64 0, .int .i64 0, .int .i64 0, .int .i64 0, .int .i64 0, .int .i64 0, .int .i64 0, .int .i64 0, .slice none 0 0, .int .i64 0, .int .i64 0, .int .i64 0, .int .i64 0, .int .i64 0, .int .i64 0, .int .i64 0, .int .i64 0, .slice none 0 0, .bool false] by (repeat' (first | (with_reducible assumption) | (with_reducible refine Row.at _ _ ?_; (simp; done)) | (with_reducible refine Row.alloc ?_ _) | (with_reducible refine Row.drew ?_) | (with_reducible refine Row.drewN ?_ _) | (with_reducible refine Row.other ?_ (by first | (simp; done) | (simp; omega) | omega) _) | (with_reducible refine Row.up ?_ (by with_reducible assumption)) | (with_reducible refine Row.chg ?_ (by with_reducible assumption) (by first | (simp; done) | (simp; omega)))))) hu1)))
  go_loop [3, 19] (fun s3 s19 => s3 = .slice (some ⟨w1.heap.size, 0, none⟩) 0 0 ∧ s19 = .int .i64 0) (fun _ s19 => 1 - (intOf s19).toNat)
  case atStart => exact ⟨by simp, rfl⟩
  case round =>
    obtain ⟨rfl, rfl⟩ := hrel
    go_wp2_with (first
      | (refine wpList_load_Row rfl 64 (.tmp 1) rfl (w.heap.size) rfl #[.int .i64 c.a, .int .i64 c.b, .int .i64 c.c, .int .i64 c.d, .int .i64 c.x, .int .i64 c.y, .int .i64 1, .int .i64 0, .int .i64 0, .int .i64 0, .int .i64 0, .int .i64 wd, .int .i64 0, .int .i64 0, .int .i64 655360, .slice none 0 0, .int .i64 ph, .int .i64 fn, .int .i64 fm.a, .int .i64 fm.b, .int .i64 fm.c, .int .i64 fm.d, .int .i64 fm.x, .int .i64 fm.y, .slice (some ⟨w1.heap.size, 0, none⟩) 0 0, .bool dk] _ (by apply cast; (case h => (repeat (first | (with_reducible assumption) | (with_reducible apply Row.at; (simp; done)) | (with_reducible apply Row.alloc) | (with_reducible apply Row.drew) | (with_reducible apply Row.drewN) | (with_reducible apply Row.set) | ((with_reducible apply Row.other); (case hp => first | (simp; done) | (simp; omega) | omega))))); (case e => rfl)) Try.underlying64 rfl infoSt rfl ?_)
      | ((refine wpList_store_Row rfl 64 (.tmp 2) _ rfl (w.heap.size + 1) #[.int .i64 c.a, .int .i64 c.b, .int .i64 c.c, .int .i64 c.d, .int .i64 c.x, .int .i64 c.y, .int .i64 1, .int .i64 0, .int .i64 0, .int .i64 0, .int .i64 0, .int .i64 wd, .int .i64 0, .int .i64 0, .int .i64 655360, .slice none 0 0, .int .i64 ph, .int .i64 fn, .int .i64 fm.a, .int .i64 fm.b, .int .i64 fm.c, .int .i64 fm.d, .int .i64 fm.x, .int .i64 fm.y, .slice (some ⟨w1.heap.size, 0, none⟩) 0 0, .bool dk] rfl rfl #[.int .i64 0, .int .i64 0, .int .i64 0, .int .i64 0, .int .i64 0, .int .i64 0, .int .i64 0, .int .i64 0, .int .i64 0, .int .i64 0, .int .i64 0, .int .i64 0, .int .i64 0, .int .i64 0, .int .i64 0, .slice none 0 0, .int .i64 0, .int .i64 0, .int .i64 0, .int .i64 0, .int .i64 0, .int .i64 0, .int .i64 0, .int .i64 0, .slice none 0 0, .bool false] (by (repeat' (first | (with_reducible assumption) | (with_reducible refine Row.at _ _ ?_; (simp; done)) | (with_reducible refine Row.alloc ?_ _) | (with_reducible refine Row.drew ?_) | (with_reducible refine Row.drewN ?_ _) | (with_reducible refine Row.other ?_ (by first | (simp; done) | (simp; omega) | omega) _) | (with_reducible refine Row.up ?_ (by with_reducible assumption)) | (with_reducible refine Row.chg ?_ (by with_reducible assumption) (by first | (simp; done) | (simp; omega)))))) infoSt rfl rfl (by simp [Value.oneCell']) ?_); intro w9 hr_w9 hc_w9))
    (try simp only [Exit.inBlock, Exit.then])
    refine bodyPost_ret (results_st rfl _ _ (w.heap.size + 1) #[.int .i64 c.a, .int .i64 c.b, .int .i64 c.c, .int .i64 c.d, .int .i64 c.x, .int .i64 c.y, .int .i64 1, .int .i64 0, .int .i64 0, .int .i64 0, .int .i64 0, .int .i64 wd, .int .i64 0, .int .i64 0, .int .i64 655360, .slice none 0 0, .int .i64 ph, .int .i64 fn, .int .i64 fm.a, .int .i64 fm.b, .int .i64 fm.c, .int .i64 fm.d, .int .i64 fm.x, .int .i64 fm.y, .slice (some ⟨w1.heap.size, 0, none⟩) 0 0, .bool dk] (by (repeat' (first | (with_reducible assumption) | (with_reducible refine Row.at _ _ ?_; (simp; done)) | (with_reducible refine Row.alloc ?_ _) | (with_reducible refine Row.drew ?_) | (with_reducible refine Row.drewN ?_ _) | (with_reducible refine Row.other ?_ (by first | (simp; done) | (simp; omega) | omega) _) | (with_reducible refine Row.up ?_ (by with_reducible assumption)) | (with_reducible refine Row.chg ?_ (by with_reducible assumption) (by first | (simp; done) | (simp; omega)))))) rfl rfl) rfl ?_
    refine ⟨⟨w1.heap.size, by omega, ?_, rfl⟩, (show Chg [] w w9 by (repeat' (first | (with_reducible exact Chg.refl _ _) | (with_reducible assumption) | (with_reducible refine Chg.alloc ?_ _) | (with_reducible refine Chg.drew ?_) | (with_reducible refine Chg.drewN ?_ _) | (with_reducible refine Chg.setCell ?_ ?_ _) | (with_reducible refine Chg.upc ?_ (by with_reducible assumption)) | (with_reducible refine Chg.call ?_ (by with_reducible assumption) ?_) | (refine Or.inl ?_; (simp; done)) | (simp; done) | (simp; omega) | omega))).up⟩
    have := hc_w9.size
    simp at this
    omega

theorem gs_range {c : M6} {wd ph fn : Int} {dash : Value} {fm : M6} {dk : Bool} {p : Nat} {most segs : Int} {b : Nat} {w : World} (h : Row w b (gsC c wd dash ph fn fm dk p most segs)) :
    w.rangeAt b 0 (stC c wd dash ph fn fm (.slice none 0 0) dk).toList := fun j v hj => by
    rw [Nat.zero_add]
    have hl : j < 26 := (List.getElem?_eq_some_iff.1 hj).1
    refine h.cell j ?_
    rw [← hj]
    revert hj
    match j, hl with
    | 0, _ => exact fun _ => rfl
    | 1, _ => exact fun _ => rfl
    | 2, _ => exact fun _ => rfl
    | 3, _ => exact fun _ => rfl
    | 4, _ => exact fun _ => rfl
    | 5, _ => exact fun _ => rfl
    | 6, _ => exact fun _ => rfl
    | 7, _ => exact fun _ => rfl
    | 8, _ => exact fun _ => rfl
    | 9, _ => exact fun _ => rfl
    | 10, _ => exact fun _ => rfl
    | 11, _ => exact fun _ => rfl
    | 12, _ => exact fun _ => rfl
    | 13, _ => exact fun _ => rfl
    | 14, _ => exact fun _ => rfl
    | 15, _ => exact fun _ => rfl
    | 16, _ => exact fun _ => rfl
    | 17, _ => exact fun _ => rfl
    | 18, _ => exact fun _ => rfl
    | 19, _ => exact fun _ => rfl
    | 20, _ => exact fun _ => rfl
    | 21, _ => exact fun _ => rfl
    | 22, _ => exact fun _ => rfl
    | 23, _ => exact fun _ => rfl
    | 24, _ => exact fun _ => rfl
    | 25, _ => exact fun _ => rfl
    | n + 26, h => omega
theorem wpList_load_gs {ops : Array Oper} {rest : List Oper} {o : Oper} {a : Act} {w : World} {Q : Exit → Act → World → Prop} (hgd : o.guard = none) (x : Operand) (ho : o.op = .load 64 x) (b : Nat) (hx : a.eval x = .pointer (some ⟨b, 0, none⟩))
    {c : M6} {wd ph fn : Int} {dash : Value} {fm : M6} {dk : Bool} {p : Nat} {most segs : Int} (h : Row w b (gsC c wd dash ph fn fm dk p most segs))
    (hk : wpList Try.prog ops Q rest (a.put o.dst (.agg (stC c wd dash ph fn fm (.slice none 0 0) dk))) w) : wpList Try.prog ops Q (o :: rest) a w :=
  wpList_load_mid hgd 64 x ho b 0 hx _ _ (gs_range h) Try.underlying64 rfl (by kernel_rfl) (by rw [Array.toArray_toList]; exact hk)

set_option maxRecDepth 8000 in
theorem now_calls (b : Nat) (c : M6) (wd ph fn : Int) (fm : M6) (dk : Bool) (p : Nat) (most segs : Int) (w : World) (h : Row w b (gsC c wd (.slice none 0 0) ph fn fm dk p most segs)) :
    Calls Try.prog 31 #[.pointer (some ⟨b, 0, none⟩)] w fun E w' => OwnSt w c wd ph fn fm dk E w' ∧ Up w w' := by
  have HR := Lib.hid h
  have hlt := h.lt
  clear h
  go_enter Try.func31, Try.ntmps31
  go_wp2_with (first
    | (refine wpList_load_gs rfl (.tmp 9) rfl b rfl (HR.out.alloc _) ?_)
    | (go_at_call 45; ((with_reducible refine (own_calls c wd ph fn fm dk _).mono ?_); rintro E w1 ⟨⟨gc, hg1, hg2, rfl⟩, hu1⟩; have z1 := hu1.size; (try simp at z1); (try simp at hg1); have RY1 : Row w1 w.heap.size #[.int .i64 0, .int .i64 0, .int .i64 0, .int .i64 0, .int .i64 0, .int .i64 0, .int .i64 0, .int .i64 0, .int .i64 0, .int .i64 0, .int .i64 0, .int .i64 0, .int .i64 0, .int .i64 0, .int .i64 0, .slice none 0 0, .int .i64 0, .int .i64 0, .int .i64 0, .int .i64 0, .int .i64 0, .int .i64 0, .int .i64 0, .int .i64 0, .slice none 0 0, .bool false] := Row.up (show Row _ w.heap.size #[.int .i64 0, .int .i64 0, .int .i64 0, .int .i64 0, .int .i64 0, .int .i64 0, .int .i64 0, .int .i64 0, .int .i64 0, .int .i64 0, .int .i64 0, .int .i64 0, .int .i64 0, .int .i64 0, .int .i64 0, .slice none 0 0, .int .i64 0, .int .i64 0, .int .i64 0, .int .i64 0, .int .i64 0, .int .i64 0, .int .i64 0, .int .i64 0, .slice none 0 0, .bool false] by (repeat' (first | (with_reducible assumption) | (with_reducible refine Row.at _ _ ?_; (simp; done)) | (with_reducible refine Row.alloc ?_ _) | (with_reducible refine Row.drew ?_) | (with_reducible refine Row.drewN ?_ _) | (with_reducible refine Row.other ?_ (by first | (simp; done) | (simp; omega) | omega) _) | (with_reducible refine Row.up ?_ (by with_reducible assumption)) | (with_reducible refine Row.chg ?_ (by with_reducible assumption) (by first | (simp; done) | (simp; omega)))))) hu1))
    | ((refine wpList_store_Row rfl 64 (.tmp 2) _ rfl w.heap.size (stC c wd (.slice none 0 0) ph fn fm (.slice (some ⟨gc, 0, none⟩) 0 0) dk) rfl rfl #[.int .i64 0, .int .i64 0, .int .i64 0, .int .i64 0, .int .i64 0, .int .i64 0, .int .i64 0, .int .i64 0, .int .i64 0, .int .i64 0, .int .i64 0, .int .i64 0, .int .i64 0, .int .i64 0, .int .i64 0, .slice none 0 0, .int .i64 0, .int .i64 0, .int .i64 0, .int .i64 0, .int .i64 0, .int .i64 0, .int .i64 0, .int .i64 0, .slice none 0 0, .bool false] (by (repeat' (first | (with_reducible assumption) | (with_reducible refine Row.at _ _ ?_; (simp; done)) | (with_reducible refine Row.alloc ?_ _) | (with_reducible refine Row.drew ?_) | (with_reducible refine Row.drewN ?_ _) | (with_reducible refine Row.other ?_ (by first | (simp; done) | (simp; omega) | omega) _) | (with_reducible refine Row.up ?_ (by with_reducible assumption)) | (with_reducible refine Row.chg ?_ (by with_reducible assumption) (by first | (simp; done) | (simp; omega)))))) infoSt rfl rfl (by simp [stC, Value.oneCell']) ?_); intro w9 hr9 hc9))
  (try simp only [Exit.inBlock, Exit.then])
  refine bodyPost_ret (results_st rfl _ _ w.heap.size _ hr9 rfl rfl) rfl ?_
  refine ⟨⟨gc, by omega, Nat.lt_of_lt_of_le hg2 hc9.size, rfl⟩, (show Chg [] w w9 by (repeat' (first | (with_reducible exact Chg.refl _ _) | (with_reducible assumption) | (with_reducible refine Chg.alloc ?_ _) | (with_reducible refine Chg.drew ?_) | (with_reducible refine Chg.drewN ?_ _) | (with_reducible refine Chg.setCell ?_ ?_ _) | (with_reducible refine Chg.upc ?_ (by with_reducible assumption)) | (with_reducible refine Chg.call ?_ (by with_reducible assumption) ?_) | (refine Or.inl ?_; (simp; done)) | (simp; done) | (simp; omega) | omega))).up⟩

end Go.Proofs.Yteddlahklilncaa.Gs