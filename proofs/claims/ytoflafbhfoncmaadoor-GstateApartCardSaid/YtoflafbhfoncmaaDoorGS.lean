/- Package gstate: Start, New, check, Path, Now of a state in which nothing is saved and nothing clips. No condition. Package gstate: Start, New, own, Now, Path of a state in which nothing is saved and nothing clips. No condition. -/
import Derived.Test.YtoflafbhfoncmaaDoorGPathW7
import Derived.Test.YtoflafbhfoncmaaDoorMat2
import Derived.Test.YtoflafbhfoncmaaDoorRows
import Derived.Deep.MidRow
import Derived.Lib.Hide
section
namespace Go.Proofs.YtoflafbhfoncmaaDoor.Gs
open Go.ChangeShapes Go.WideShapes Go.RowKit
open Go.Proofs.YtoflafbhfoncmaaDoor.FixM (fits)
open Go.Proofs.YtoflafbhfoncmaaDoor.MatM (M6)
open Go.Proofs.YtoflafbhfoncmaaDoor.PathM
set_option linter.unusedVariables false
set_option linter.unusedSimpArgs false

/-- integers that lie in a row -/
def IntsAt (w : World) (b o : Nat) (l : List Int) : Prop := ∀ (i : Nat) (p : Int), l[i]? = some p → w.cell? ⟨b, o + i, none⟩ = some (.int .i64 p)
theorem IntsAt.up {w w1 : World} {b o : Nat} {l : List Int} (h : IntsAt w b o l) (hb : b < w.heap.size) (hu : Up w w1) : IntsAt w1 b o l := fun i p hp => (hu.cells.1 b _ hb).trans (h i p hp)
def idxI (p : Int → Bool) (l : List Int) : Int := if l.any p then (l.findIdx p : Int) else -1
theorem idxI_neg (p : Int → Bool) (l : List Int) : decide (0 ≤ idxI p l) = l.any p := by
  unfold idxI
  cases h : l.any p
  · rfl
  · rw [if_pos rfl]; exact decide_eq_true (by omega)

theorem check1_calls (n : Int) (w : World) :
    Calls Tryd.prog 58 #[.int .i64 n] w fun e w' => e = .returned (.bool (!fits n)) ∧ w = w' := by
  go_enter Tryd.func58, Tryd.ntmps58
  go_wp2_with (go_at_call 59; ((with_reducible refine (Fix.fits_calls _ _).mono ?_); rintro e w' ⟨rfl, rfl⟩))
  go_ret
  exact ⟨rfl, rfl⟩

theorem index_check (l : List Int) (b o c : Nat) (w : World) (hl : l.length ≤ 1000000000) (h : IntsAt w b o l) (hb : b < w.heap.size) :
    Calls Tryd.prog 62 #[.slice (some ⟨b, o, none⟩) l.length c, .func (.func 58) #[] #[]] w fun e w' => e = .returned (.int .i64 (idxI (fun n => !fits n) l)) ∧ Up w w' := by
  have HP := Lib.hid h
  clear h
  go_enter Tryd.func62, Tryd.ntmps62
  go_wp2
  go_loopw [8] (fun i wr => ∃ k : Nat, k ≤ l.length ∧ i = .int .i64 k ∧ (l.take k).any (fun n => !fits n) = false ∧ Up w wr) (fun i _ => l.length - (intOf i).toNat)
  case atStart => exact ⟨0, Nat.zero_le _, rfl, rfl, Up.refl _⟩
  case round =>
    obtain ⟨k, hk, rfl, hno, hup⟩ := hrel
    have HN := Lib.hid hno
    clear hno
    by_cases hlt : k < l.length
    · obtain ⟨x, hxy⟩ : ∃ x, l[k] = x := ⟨_, rfl⟩
      have hg : l[k]? = some x := by rw [List.getElem?_eq_getElem hlt, hxy]
      have hc0 := HP.out k x hg
      have hq0 := (hup.cells.1 b (o + k) hb).trans hc0
      have hz := hup.size
      clear hc0
      have HG := Lib.hid hg
      have HL := Lib.hid (And.intro hlt hxy)
      clear hg hxy
      obtain ⟨t, ht⟩ : ∃ t, (!fits x) = t := ⟨_, rfl⟩
      have HT := Lib.hid ht
      clear ht
      cases t
      · go_wp2_with (go_at_call 58; ((with_reducible refine (check1_calls x _).mono ?_); rintro E w1 ⟨rfl, rfl⟩; rw [HT.out]))
        go_roundw
        case rel => exact ⟨k + 1, by omega, by go_num, by rw [List.take_succ_eq_append_getElem HL.out.1, List.any_append, HN.out, HL.out.2]; simpa using HT.out, by (repeat' (first | (with_reducible first | exact Up.refl _ | assumption | refine Up.alloc ?_ _ | refine Up.drew ?_ | refine Up.drewN ?_ _ | refine Up.setCell ?_ ?_ _ | refine Up.call ?_ (by assumption)) | go_size))⟩
        case measure => have := HL.out.1; simp [intOf]; omega
      · have HE : Hid (idxI (fun n => !fits n) l = k) := Lib.hid (by
          have ha : l.any (fun n => !fits n) = true := List.any_eq_true.2 ⟨x, List.mem_of_getElem? HG.out, HT.out⟩
          unfold idxI
          rw [if_pos ha]
          congr 1
          rw [List.findIdx_eq HL.out.1]
          refine ⟨by rw [HL.out.2]; exact HT.out, fun j hj => ?_⟩
          have h1 := HN.out
          rw [List.any_eq_false] at h1
          have h2 := h1 (l[j]'(by have := HL.out.1; omega)) (List.mem_take_iff_getElem.2 ⟨j, by have := HL.out.1; omega, rfl⟩)
          simpa using h2)
        go_wp2_with (go_at_call 58; ((with_reducible refine (check1_calls x _).mono ?_); rintro E w1 ⟨rfl, rfl⟩; rw [HT.out]))
        go_ret
        exact ⟨by rw [HE.out]; rfl, by (repeat' (first | (with_reducible first | exact Up.refl _ | assumption | refine Up.alloc ?_ _ | refine Up.drew ?_ | refine Up.drewN ?_ _ | refine Up.setCell ?_ ?_ _ | refine Up.call ?_ (by assumption)) | go_size))⟩
    · have HE : Hid (idxI (fun n => !fits n) l = -1) := Lib.hid (by
        have := HN.out
        rw [List.take_of_length_le (by omega)] at this
        unfold idxI
        rw [this]
        rfl)
      go_wp2
      go_ret
      exact ⟨by rw [HE.out]; rfl, by (repeat' (first | (with_reducible first | exact Up.refl _ | assumption | refine Up.alloc ?_ _ | refine Up.drew ?_ | refine Up.drewN ?_ _ | refine Up.setCell ?_ ?_ _ | refine Up.call ?_ (by assumption)) | go_size))⟩

theorem contains_check (l : List Int) (b o c : Nat) (w : World) (hl : l.length ≤ 1000000000) (h : IntsAt w b o l) (hb : b < w.heap.size) :
    Calls Tryd.prog 48 #[.slice (some ⟨b, o, none⟩) l.length c, .func (.func 58) #[] #[]] w fun e w' => e = .returned (.bool (l.any (fun n => !fits n))) ∧ Up w w' := by
  have HI := Lib.hid (idxI_neg (fun n => !fits n) l)
  have HP := Lib.hid h
  clear h
  go_enter Tryd.func48, Tryd.ntmps48
  go_wp2_with (go_at_call 62; ((with_reducible refine (index_check l b o c _ hl HP.out hb).mono ?_); rintro E w1 ⟨rfl, hu1⟩))
  go_ret
  exact ⟨by rw [← HI.out]; rfl, by (repeat' (first | (with_reducible first | exact Up.refl _ | assumption | refine Up.alloc ?_ _ | refine Up.drew ?_ | refine Up.drewN ?_ _ | refine Up.setCell ?_ ?_ _ | refine Up.call ?_ (by assumption)) | go_size))⟩

/-- the error of a call with numbers -/
def chk (l : List Int) : Int := if l.any (fun n => !fits n) then 11 else 0
theorem check_calls (g : Addr) (l : List Int) (N b o c : Nat) (hN : l.length = N) (w : World) (hl : N ≤ 1000000000) (h : IntsAt w b o l) (hb : b < w.heap.size) :
    Calls Tryd.prog 45 #[.pointer (some g), .slice (some ⟨b, o, none⟩) N c] w fun e w' => e = .returned (.int .i64 (chk l)) ∧ Up w w' := by
  subst hN
  have HP := Lib.hid h
  clear h
  cases hv : l.any (fun n => !fits n)
  all_goals
    have HV := Lib.hid hv
    have HC := Lib.hid (show chk l = _ by unfold chk; rw [hv])
    clear hv
    go_enter Tryd.func45, Tryd.ntmps45
    go_wp2_with (go_at_call 48; ((with_reducible refine (contains_check l b o c _ hl HP.out hb).mono ?_); rw [HV.out]; rintro E w1 ⟨rfl, hu1⟩))
    go_ret
    exact ⟨by rw [HC.out]; rfl, by (repeat' (first | (with_reducible first | exact Up.refl _ | assumption | refine Up.alloc ?_ _ | refine Up.drew ?_ | refine Up.drewN ?_ _ | refine Up.setCell ?_ ?_ _ | refine Up.call ?_ (by assumption)) | go_size))⟩

end Go.Proofs.YtoflafbhfoncmaaDoor.Gs
end

section
namespace Go.Proofs.YtoflafbhfoncmaaDoor.Gs
open Go.ChangeShapes Go.WideShapes Go.RowKit
open Go.Proofs.YtoflafbhfoncmaaDoor.FixM (fits)
open Go.Proofs.YtoflafbhfoncmaaDoor.MatM (M6)
open Go.Proofs.YtoflafbhfoncmaaDoor.PathM
set_option linter.unusedVariables false
set_option linter.unusedSimpArgs false

theorem results_st {fn : Func} {i : Nat} (h : fn.results = #[.cell i 41]) (tmps : Array Value) (w : World) (b : Nat) (cs : Array Value) (hr : Row w b cs) (hs : cs.size = 26) (e : tmps.getD i undef = .pointer (some ⟨b, 0, none⟩)) :
    (results fn tmps).run Tryd.prog w = .ok (.agg cs) w := by
  rw [Array.getD_eq_getD_getElem?] at e
  have hl := run_loadAt_mid (P := Tryd.prog) w b 0 41 cs.toList _ (fun j v hj => by rw [Nat.zero_add]; exact hr.cell j (by simpa using hj)) Tryd.underlying41 rfl (by rw [Array.length_toList, hs]; kernel_rfl)
  simp [results, h, go_sem, e] at hl ⊢
  exact hl

theorem cast {w : World} {b : Nat} {cs cs2 : Array Value} (h : Row w b cs) (e : cs = cs2) : Row w b cs2 := e ▸ h
theorem infoSt : (Tryd.prog.info? 41).map (·.size) = some 26 := by kernel_rfl
def stC (c : M6) (wd : Int) (dash : Value) (ph fn : Int) (fm : M6) (clips : Value) (dk : Bool) : Array Value := #[.int .i64 c.a, .int .i64 c.b, .int .i64 c.c, .int .i64 c.d, .int .i64 c.x, .int .i64 c.y, .int .i64 1, .int .i64 0, .int .i64 0, .int .i64 0, .int .i64 0, .int .i64 wd, .int .i64 0, .int .i64 0, .int .i64 655360, dash, .int .i64 ph, .int .i64 fn, .int .i64 fm.a, .int .i64 fm.b, .int .i64 fm.c, .int .i64 fm.d, .int .i64 fm.x, .int .i64 fm.y, clips, .bool dk]
def gsC (c : M6) (wd : Int) (dash : Value) (ph fn : Int) (fm : M6) (dk : Bool) (p : Nat) (most segs : Int) : Array Value := #[.int .i64 c.a, .int .i64 c.b, .int .i64 c.c, .int .i64 c.d, .int .i64 c.x, .int .i64 c.y, .int .i64 1, .int .i64 0, .int .i64 0, .int .i64 0, .int .i64 0, .int .i64 wd, .int .i64 0, .int .i64 0, .int .i64 655360, dash, .int .i64 ph, .int .i64 fn, .int .i64 fm.a, .int .i64 fm.b, .int .i64 fm.c, .int .i64 fm.d, .int .i64 fm.x, .int .i64 fm.y, .slice none 0 0, .bool dk, .pointer (some ⟨p, 0, none⟩), .int .i64 most, .int .i64 segs, .slice none 0 0]
def idM : M6 := ⟨65536, 0, 0, 65536, 0, 0⟩

set_option maxRecDepth 8000 in
theorem start_calls (w : World) : Calls Tryd.prog 18 #[] w fun E w' => E = .returned (.agg #[.int .i64 65536, .int .i64 0, .int .i64 0, .int .i64 65536, .int .i64 0, .int .i64 0, .int .i64 1, .int .i64 0, .int .i64 0, .int .i64 0, .int .i64 0, .int .i64 65536, .int .i64 0, .int .i64 0, .int .i64 655360, .slice none 0 0, .int .i64 0, .int .i64 (-1), .int .i64 65536, .int .i64 0, .int .i64 0, .int .i64 65536, .int .i64 0, .int .i64 0, .slice none 0 0, .bool false]) ∧ Up w w' := by
  go_enter Tryd.func18, Tryd.ntmps18
  go_wp2_with (first
    | (go_at_call 43; ((with_reducible refine (Mat2.identity_calls _).mono ?_); rintro E w1 ⟨rfl, hu1⟩; have RZ1 : Row w1 w.heap.size #[.int .i64 0, .int .i64 0, .int .i64 0, .int .i64 0, .int .i64 0, .int .i64 0, .int .i64 0, .int .i64 0, .int .i64 0, .int .i64 0, .int .i64 0, .int .i64 0, .int .i64 0, .int .i64 0, .int .i64 0, .slice none 0 0, .int .i64 0, .int .i64 0, .int .i64 0, .int .i64 0, .int .i64 0, .int .i64 0, .int .i64 0, .int .i64 0, .slice none 0 0, .bool false] := Row.up (show Row _ w.heap.size #[.int .i64 0, .int .i64 0, .int .i64 0, .int .i64 0, .int .i64 0, .int .i64 0, .int .i64 0, .int .i64 0, .int .i64 0, .int .i64 0, .int .i64 0, .int .i64 0, .int .i64 0, .int .i64 0, .int .i64 0, .slice none 0 0, .int .i64 0, .int .i64 0, .int .i64 0, .int .i64 0, .int .i64 0, .int .i64 0, .int .i64 0, .int .i64 0, .slice none 0 0, .bool false] by (repeat' (with_reducible first | assumption | (refine Row.at _ _ ?_; (simp; done)) | refine Row.alloc ?_ _ | refine Row.drew ?_ | refine Row.drewN ?_ _ | refine Row.other ?_ (by first | (simp; done) | (simp; omega) | omega) _ | refine Row.up ?_ (by assumption) | refine Row.chg ?_ (by assumption) (by first | (simp; done) | (simp; omega))))) hu1; have z1 := hu1.size; (try simp at z1)))
    | (go_at_call 43; ((with_reducible refine (Mat2.identity_calls _).mono ?_); rintro E w2 ⟨rfl, hu2⟩; have RZ2 := RZ1.up hu2; have z2 := hu2.size; (try simp at z2)))
    | ((refine wpList_store_Row rfl 41 (.tmp 0) _ rfl (w.heap.size) #[.int .i64 65536, .int .i64 0, .int .i64 0, .int .i64 65536, .int .i64 0, .int .i64 0, .int .i64 1, .int .i64 0, .int .i64 0, .int .i64 0, .int .i64 0, .int .i64 65536, .int .i64 0, .int .i64 0, .int .i64 655360, .slice none 0 0, .int .i64 0, .int .i64 (-1), .int .i64 65536, .int .i64 0, .int .i64 0, .int .i64 65536, .int .i64 0, .int .i64 0, .slice none 0 0, .bool false] rfl rfl #[.int .i64 0, .int .i64 0, .int .i64 0, .int .i64 0, .int .i64 0, .int .i64 0, .int .i64 0, .int .i64 0, .int .i64 0, .int .i64 0, .int .i64 0, .int .i64 0, .int .i64 0, .int .i64 0, .int .i64 0, .slice none 0 0, .int .i64 0, .int .i64 0, .int .i64 0, .int .i64 0, .int .i64 0, .int .i64 0, .int .i64 0, .int .i64 0, .slice none 0 0, .bool false] (by (repeat' (with_reducible first | assumption | (refine Row.at _ _ ?_; (simp; done)) | refine Row.alloc ?_ _ | refine Row.drew ?_ | refine Row.drewN ?_ _ | refine Row.other ?_ (by first | (simp; done) | (simp; omega) | omega) _ | refine Row.up ?_ (by assumption) | refine Row.chg ?_ (by assumption) (by first | (simp; done) | (simp; omega))))) infoSt rfl rfl (by simp [Value.oneCell']) ?_); intro w9 hr_w9 hc_w9))
  (try simp only [Exit.inBlock, Exit.then])
  refine bodyPost_ret (results_st rfl _ _ w.heap.size #[.int .i64 65536, .int .i64 0, .int .i64 0, .int .i64 65536, .int .i64 0, .int .i64 0, .int .i64 1, .int .i64 0, .int .i64 0, .int .i64 0, .int .i64 0, .int .i64 65536, .int .i64 0, .int .i64 0, .int .i64 655360, .slice none 0 0, .int .i64 0, .int .i64 (-1), .int .i64 65536, .int .i64 0, .int .i64 0, .int .i64 65536, .int .i64 0, .int .i64 0, .slice none 0 0, .bool false] (by (repeat' (with_reducible first | assumption | (refine Row.at _ _ ?_; (simp; done)) | refine Row.alloc ?_ _ | refine Row.drew ?_ | refine Row.drewN ?_ _ | refine Row.other ?_ (by first | (simp; done) | (simp; omega) | omega) _ | refine Row.up ?_ (by assumption) | refine Row.chg ?_ (by assumption) (by first | (simp; done) | (simp; omega))))) rfl rfl) rfl ?_
  exact ⟨rfl, (show Chg [] w w9 by (repeat' (first | (with_reducible first | exact Chg.refl _ _ | assumption | refine Chg.alloc ?_ _ | refine Chg.drew ?_ | refine Chg.drewN ?_ _ | refine Chg.setCell ?_ ?_ _ | refine Chg.upc ?_ (by assumption) | refine Chg.call ?_ (by assumption) ?_) | (refine Or.inl ?_; (simp; done)) | (simp; done) | (simp; omega) | omega))).up⟩

set_option maxRecDepth 8000 in
theorem gnew_calls (most segs : Int) (w : World) : Calls Tryd.prog 6 #[.int .i64 most, .int .i64 segs] w fun E w' => ∃ b p, E = .returned (.pointer (some ⟨b, 0, none⟩)) ∧ w.heap.size ≤ b ∧ w.heap.size ≤ p ∧ p ≠ b ∧ Row w' b (gsC idM 65536 (.slice none 0 0) 0 (-1) idM false p most segs) ∧ Path.PathIs w' p (.slice none 0 0) ⟨segs, [], Z, Z⟩ ∧ Up w w' := by
  go_enter Tryd.func6, Tryd.ntmps6
  go_wp2_with (first
    | (go_at_call 18; ((with_reducible refine (start_calls _).mono ?_); rintro E w1 ⟨rfl, hu1⟩; have z1 := hu1.size))
    | (go_at_call 21; ((with_reducible refine (Path.new_calls segs _).mono ?_); rintro E w2 ⟨rfl, hu2, hp2⟩; have HP := Lib.hid hp2; have z2 := hu2.size; have l2 := hp2.row.lt; clear hp2)))
  go_ret
  exact ⟨w2.heap.size, w1.heap.size, rfl, by omega, by omega, by omega, (show Row _ _ #[.int .i64 65536, .int .i64 0, .int .i64 0, .int .i64 65536, .int .i64 0, .int .i64 0, .int .i64 1, .int .i64 0, .int .i64 0, .int .i64 0, .int .i64 0, .int .i64 65536, .int .i64 0, .int .i64 0, .int .i64 655360, .slice none 0 0, .int .i64 0, .int .i64 (-1), .int .i64 65536, .int .i64 0, .int .i64 0, .int .i64 65536, .int .i64 0, .int .i64 0, .slice none 0 0, .bool false, .pointer (some ⟨w1.heap.size, 0, none⟩), .int .i64 most, .int .i64 segs, .slice none 0 0] by (repeat' (with_reducible first | assumption | (refine Row.at _ _ ?_; (simp; done)) | refine Row.alloc ?_ _ | refine Row.drew ?_ | refine Row.drewN ?_ _ | refine Row.other ?_ (by first | (simp; done) | (simp; omega) | omega) _ | refine Row.up ?_ (by assumption) | refine Row.chg ?_ (by assumption) (by first | (simp; done) | (simp; omega))))), HP.out.up (by (repeat' (first | (with_reducible first | exact Up.refl _ | assumption | refine Up.alloc ?_ _ | refine Up.drew ?_ | refine Up.drewN ?_ _ | refine Up.setCell ?_ ?_ _ | refine Up.call ?_ (by assumption)) | go_size))), by (repeat' (first | (with_reducible first | exact Up.refl _ | assumption | refine Up.alloc ?_ _ | refine Up.drew ?_ | refine Up.drewN ?_ _ | refine Up.setCell ?_ ?_ _ | refine Up.call ?_ (by assumption)) | go_size))⟩

set_option maxRecDepth 8000 in
theorem cloneI_nil (w : World) : Calls Tryd.prog 50 #[.slice none 0 0] w fun E w' => E = .returned (.slice none 0 0) ∧ Up w w' := by
  have heq := fun w => Lib.run_eql_slice_nil (P := Tryd.prog) w 27 3 none 0 0 0 0 Tryd.underlying27
  go_enter Tryd.func50, Tryd.ntmps50
  go_wp2
  go_ret
  exact ⟨rfl, by (repeat' (first | (with_reducible first | exact Up.refl _ | assumption | refine Up.alloc ?_ _ | refine Up.drew ?_ | refine Up.drewN ?_ _ | refine Up.setCell ?_ ?_ _ | refine Up.call ?_ (by assumption)) | go_size))⟩

set_option maxRecDepth 8000 in
theorem path_calls (b : Nat) (p : Nat) (w : World) (h : w.cell? ⟨b, 26, none⟩ = some (.pointer (some ⟨p, 0, none⟩))) :
    Calls Tryd.prog 10 #[.pointer (some ⟨b, 0, none⟩)] w fun E w' => E = .returned (.pointer (some ⟨p, 0, none⟩)) ∧ w = w' := by
  go_enter Tryd.func10, Tryd.ntmps10
  go_wp2
  go_ret
  exact ⟨rfl, rfl⟩

/-- a copy of a plain state shares nothing -/
def OwnSt (w : World) (c : M6) (wd ph fn : Int) (fm : M6) (dk : Bool) (E : Ending) (w' : World) : Prop := ∃ gc, w.heap.size ≤ gc ∧ gc < w'.heap.size ∧ E = .returned (.agg (stC c wd (.slice none 0 0) ph fn fm (.slice (some ⟨gc, 0, none⟩) 0 0) dk))
set_option maxRecDepth 8000 in
set_option maxHeartbeats 1000000 in
theorem own_calls (c : M6) (wd ph fn : Int) (fm : M6) (dk : Bool) (w : World) :
    Calls Tryd.prog 38 #[.agg (stC c wd (.slice none 0 0) ph fn fm (.slice none 0 0) dk)] w fun E w' => OwnSt w c wd ph fn fm dk E w' ∧ Up w w' := by
  show Calls Tryd.prog 38 #[.agg #[.int .i64 c.a, .int .i64 c.b, .int .i64 c.c, .int .i64 c.d, .int .i64 c.x, .int .i64 c.y, .int .i64 1, .int .i64 0, .int .i64 0, .int .i64 0, .int .i64 0, .int .i64 wd, .int .i64 0, .int .i64 0, .int .i64 655360, .slice none 0 0, .int .i64 ph, .int .i64 fn, .int .i64 fm.a, .int .i64 fm.b, .int .i64 fm.c, .int .i64 fm.d, .int .i64 fm.x, .int .i64 fm.y, .slice none 0 0, .bool dk]] w _
  have hmk : ∀ W : World, (Instr.makeSlice 39 (.int .i64 0) (.int .i64 0)).run Tryd.prog W = .ok (.slice (some ⟨W.heap.size, 0, none⟩) 0 0) (W.alloc (.cells #[] 57)) := fun _ => by kernel_rfl
  go_enter Tryd.func38, Tryd.ntmps38
  go_wp2_with (first
    | (go_at_call 50; ((with_reducible refine (cloneI_nil _).mono ?_); rintro E w1 ⟨rfl, hu1⟩; have k_w1 := hu1.cells.1; have f_w1 := hu1.cells.2; have z_w1 := hu1.size; (try simp at z_w1); have l0_w1 : w.heap.size < w1.heap.size := (by omega); have l1_w1 : w.heap.size + 1 < w1.heap.size := (by omega); have RX1 : Row w1 w.heap.size #[.int .i64 c.a, .int .i64 c.b, .int .i64 c.c, .int .i64 c.d, .int .i64 c.x, .int .i64 c.y, .int .i64 1, .int .i64 0, .int .i64 0, .int .i64 0, .int .i64 0, .int .i64 wd, .int .i64 0, .int .i64 0, .int .i64 655360, .slice none 0 0, .int .i64 ph, .int .i64 fn, .int .i64 fm.a, .int .i64 fm.b, .int .i64 fm.c, .int .i64 fm.d, .int .i64 fm.x, .int .i64 fm.y, .slice none 0 0, .bool dk] := Row.up (show Row _ w.heap.size #[.int .i64 c.a, .int .i64 c.b, .int .i64 c.c, .int .i64 c.d, .int .i64 c.x, .int .i64 c.y, .int .i64 1, .int .i64 0, .int .i64 0, .int .i64 0, .int .i64 0, .int .i64 wd, .int .i64 0, .int .i64 0, .int .i64 655360, .slice none 0 0, .int .i64 ph, .int .i64 fn, .int .i64 fm.a, .int .i64 fm.b, .int .i64 fm.c, .int .i64 fm.d, .int .i64 fm.x, .int .i64 fm.y, .slice none 0 0, .bool dk] by (repeat' (with_reducible first | assumption | (refine Row.at _ _ ?_; (simp; done)) | refine Row.alloc ?_ _ | refine Row.drew ?_ | refine Row.drewN ?_ _ | refine Row.other ?_ (by first | (simp; done) | (simp; omega) | omega) _ | refine Row.up ?_ (by assumption) | refine Row.chg ?_ (by assumption) (by first | (simp; done) | (simp; omega))))) hu1; have RY1 : Row w1 (w.heap.size + 1) #[.int .i64 0, .int .i64 0, .int .i64 0, .int .i64 0, .int .i64 0, .int .i64 0, .int .i64 0, .int .i64 0, .int .i64 0, .int .i64 0, .int .i64 0, .int .i64 0, .int .i64 0, .int .i64 0, .int .i64 0, .slice none 0 0, .int .i64 0, .int .i64 0, .int .i64 0, .int .i64 0, .int .i64 0, .int .i64 0, .int .i64 0, .int .i64 0, .slice none 0 0, .bool false] := Row.up (show Row _ (w.heap.size + 1) #[.int .i64 0, .int .i64 0, .int .i64 0, .int .i64 0, .int .i64 0, .int .i64 0, .int .i64 0, .int .i64 0, .int .i64 0, .int .i64 0, .int .i64 0, .int .i64 0, .int .i64 0, .int .i64 0, .int .i64 0, .slice none 0 0, .int .i64 0, .int .i64 0, .int .i64 0, .int .i64 0, .int .i64 0, .int .i64 0, .int .i64 0, .int .i64 0, .slice none 0 0, .bool false] by (repeat' (with_reducible first | assumption | (refine Row.at _ _ ?_; (simp; done)) | refine Row.alloc ?_ _ | refine Row.drew ?_ | refine Row.drewN ?_ _ | refine Row.other ?_ (by first | (simp; done) | (simp; omega) | omega) _ | refine Row.up ?_ (by assumption) | refine Row.chg ?_ (by assumption) (by first | (simp; done) | (simp; omega))))) hu1)))
  go_loop [3, 19] (fun s3 s19 => s3 = .slice (some ⟨w1.heap.size, 0, none⟩) 0 0 ∧ s19 = .int .i64 0) (fun _ s19 => 1 - (intOf s19).toNat)
  case atStart => exact ⟨by simp, rfl⟩
  case round =>
    obtain ⟨rfl, rfl⟩ := hrel
    go_wp2_with (first
      | (refine wpList_load_Row rfl 41 (.tmp 1) rfl (w.heap.size) rfl #[.int .i64 c.a, .int .i64 c.b, .int .i64 c.c, .int .i64 c.d, .int .i64 c.x, .int .i64 c.y, .int .i64 1, .int .i64 0, .int .i64 0, .int .i64 0, .int .i64 0, .int .i64 wd, .int .i64 0, .int .i64 0, .int .i64 655360, .slice none 0 0, .int .i64 ph, .int .i64 fn, .int .i64 fm.a, .int .i64 fm.b, .int .i64 fm.c, .int .i64 fm.d, .int .i64 fm.x, .int .i64 fm.y, .slice (some ⟨w1.heap.size, 0, none⟩) 0 0, .bool dk] _ (by apply cast; (case h => (repeat (first | (with_reducible first | assumption | (apply Row.at; (simp; done)) | apply Row.alloc | apply Row.drew | apply Row.drewN | apply Row.set) | ((with_reducible apply Row.other); (case hp => first | (simp; done) | (simp; omega) | omega))))); (case e => rfl)) Tryd.underlying41 rfl infoSt rfl ?_)
      | ((refine wpList_store_Row rfl 41 (.tmp 2) _ rfl (w.heap.size + 1) #[.int .i64 c.a, .int .i64 c.b, .int .i64 c.c, .int .i64 c.d, .int .i64 c.x, .int .i64 c.y, .int .i64 1, .int .i64 0, .int .i64 0, .int .i64 0, .int .i64 0, .int .i64 wd, .int .i64 0, .int .i64 0, .int .i64 655360, .slice none 0 0, .int .i64 ph, .int .i64 fn, .int .i64 fm.a, .int .i64 fm.b, .int .i64 fm.c, .int .i64 fm.d, .int .i64 fm.x, .int .i64 fm.y, .slice (some ⟨w1.heap.size, 0, none⟩) 0 0, .bool dk] rfl rfl #[.int .i64 0, .int .i64 0, .int .i64 0, .int .i64 0, .int .i64 0, .int .i64 0, .int .i64 0, .int .i64 0, .int .i64 0, .int .i64 0, .int .i64 0, .int .i64 0, .int .i64 0, .int .i64 0, .int .i64 0, .slice none 0 0, .int .i64 0, .int .i64 0, .int .i64 0, .int .i64 0, .int .i64 0, .int .i64 0, .int .i64 0, .int .i64 0, .slice none 0 0, .bool false] (by (repeat' (with_reducible first | assumption | (refine Row.at _ _ ?_; (simp; done)) | refine Row.alloc ?_ _ | refine Row.drew ?_ | refine Row.drewN ?_ _ | refine Row.other ?_ (by first | (simp; done) | (simp; omega) | omega) _ | refine Row.up ?_ (by assumption) | refine Row.chg ?_ (by assumption) (by first | (simp; done) | (simp; omega))))) infoSt rfl rfl (by simp [Value.oneCell']) ?_); intro w9 hr_w9 hc_w9))
    (try simp only [Exit.inBlock, Exit.then])
    refine bodyPost_ret (results_st rfl _ _ (w.heap.size + 1) #[.int .i64 c.a, .int .i64 c.b, .int .i64 c.c, .int .i64 c.d, .int .i64 c.x, .int .i64 c.y, .int .i64 1, .int .i64 0, .int .i64 0, .int .i64 0, .int .i64 0, .int .i64 wd, .int .i64 0, .int .i64 0, .int .i64 655360, .slice none 0 0, .int .i64 ph, .int .i64 fn, .int .i64 fm.a, .int .i64 fm.b, .int .i64 fm.c, .int .i64 fm.d, .int .i64 fm.x, .int .i64 fm.y, .slice (some ⟨w1.heap.size, 0, none⟩) 0 0, .bool dk] (by (repeat' (with_reducible first | assumption | (refine Row.at _ _ ?_; (simp; done)) | refine Row.alloc ?_ _ | refine Row.drew ?_ | refine Row.drewN ?_ _ | refine Row.other ?_ (by first | (simp; done) | (simp; omega) | omega) _ | refine Row.up ?_ (by assumption) | refine Row.chg ?_ (by assumption) (by first | (simp; done) | (simp; omega))))) rfl rfl) rfl ?_
    refine ⟨⟨w1.heap.size, by omega, ?_, rfl⟩, (show Chg [] w w9 by (repeat' (first | (with_reducible first | exact Chg.refl _ _ | assumption | refine Chg.alloc ?_ _ | refine Chg.drew ?_ | refine Chg.drewN ?_ _ | refine Chg.setCell ?_ ?_ _ | refine Chg.upc ?_ (by assumption) | refine Chg.call ?_ (by assumption) ?_) | (refine Or.inl ?_; (simp; done)) | (simp; done) | (simp; omega) | omega))).up⟩
    have := hc_w9.size
    simp at this
    omega

theorem gs_range {c : M6} {wd ph fn : Int} {dash : Value} {fm : M6} {dk : Bool} {p : Nat} {most segs : Int} {b : Nat} {w : World} (h : Row w b (gsC c wd dash ph fn fm dk p most segs)) :
    w.rangeAt b 0 (stC c wd dash ph fn fm (.slice none 0 0) dk).toList := fun j v hj => by
    rw [Nat.zero_add]
    have hl : j < 26 := (List.getElem?_eq_some_iff.1 hj).1
    refine h.cell j ?_
    rw [← hj]
    revert hj
    match j, hl with
    | 0, _ => exact fun _ => rfl
    | 1, _ => exact fun _ => rfl
    | 2, _ => exact fun _ => rfl
    | 3, _ => exact fun _ => rfl
    | 4, _ => exact fun _ => rfl
    | 5, _ => exact fun _ => rfl
    | 6, _ => exact fun _ => rfl
    | 7, _ => exact fun _ => rfl
    | 8, _ => exact fun _ => rfl
    | 9, _ => exact fun _ => rfl
    | 10, _ => exact fun _ => rfl
    | 11, _ => exact fun _ => rfl
    | 12, _ => exact fun _ => rfl
    | 13, _ => exact fun _ => rfl
    | 14, _ => exact fun _ => rfl
    | 15, _ => exact fun _ => rfl
    | 16, _ => exact fun _ => rfl
    | 17, _ => exact fun _ => rfl
    | 18, _ => exact fun _ => rfl
    | 19, _ => exact fun _ => rfl
    | 20, _ => exact fun _ => rfl
    | 21, _ => exact fun _ => rfl
    | 22, _ => exact fun _ => rfl
    | 23, _ => exact fun _ => rfl
    | 24, _ => exact fun _ => rfl
    | 25, _ => exact fun _ => rfl
    | n + 26, h => omega
theorem wpList_load_gs {ops : Array Oper} {rest : List Oper} {o : Oper} {a : Act} {w : World} {Q : Exit → Act → World → Prop} (hgd : o.guard = none) (x : Operand) (ho : o.op = .load 41 x) (b : Nat) (hx : a.eval x = .pointer (some ⟨b, 0, none⟩))
    {c : M6} {wd ph fn : Int} {dash : Value} {fm : M6} {dk : Bool} {p : Nat} {most segs : Int} (h : Row w b (gsC c wd dash ph fn fm dk p most segs))
    (hk : wpList Tryd.prog ops Q rest (a.put o.dst (.agg (stC c wd dash ph fn fm (.slice none 0 0) dk))) w) : wpList Tryd.prog ops Q (o :: rest) a w :=
  wpList_load_mid hgd 41 x ho b 0 hx _ _ (gs_range h) Tryd.underlying41 rfl (by kernel_rfl) (by rw [Array.toArray_toList]; exact hk)

set_option maxRecDepth 8000 in
theorem now_calls (b : Nat) (c : M6) (wd ph fn : Int) (fm : M6) (dk : Bool) (p : Nat) (most segs : Int) (w : World) (h : Row w b (gsC c wd (.slice none 0 0) ph fn fm dk p most segs)) :
    Calls Tryd.prog 9 #[.pointer (some ⟨b, 0, none⟩)] w fun E w' => OwnSt w c wd ph fn fm dk E w' ∧ Up w w' := by
  have HR := Lib.hid h
  have hlt := h.lt
  clear h
  go_enter Tryd.func9, Tryd.ntmps9
  go_wp2_with (first
    | (refine wpList_load_gs rfl (.tmp 9) rfl b rfl (HR.out.alloc _) ?_)
    | (go_at_call 38; ((with_reducible refine (own_calls c wd ph fn fm dk _).mono ?_); rintro E w1 ⟨⟨gc, hg1, hg2, rfl⟩, hu1⟩; have z1 := hu1.size; (try simp at z1); (try simp at hg1); have RY1 : Row w1 w.heap.size #[.int .i64 0, .int .i64 0, .int .i64 0, .int .i64 0, .int .i64 0, .int .i64 0, .int .i64 0, .int .i64 0, .int .i64 0, .int .i64 0, .int .i64 0, .int .i64 0, .int .i64 0, .int .i64 0, .int .i64 0, .slice none 0 0, .int .i64 0, .int .i64 0, .int .i64 0, .int .i64 0, .int .i64 0, .int .i64 0, .int .i64 0, .int .i64 0, .slice none 0 0, .bool false] := Row.up (show Row _ w.heap.size #[.int .i64 0, .int .i64 0, .int .i64 0, .int .i64 0, .int .i64 0, .int .i64 0, .int .i64 0, .int .i64 0, .int .i64 0, .int .i64 0, .int .i64 0, .int .i64 0, .int .i64 0, .int .i64 0, .int .i64 0, .slice none 0 0, .int .i64 0, .int .i64 0, .int .i64 0, .int .i64 0, .int .i64 0, .int .i64 0, .int .i64 0, .int .i64 0, .slice none 0 0, .bool false] by (repeat' (with_reducible first | assumption | (refine Row.at _ _ ?_; (simp; done)) | refine Row.alloc ?_ _ | refine Row.drew ?_ | refine Row.drewN ?_ _ | refine Row.other ?_ (by first | (simp; done) | (simp; omega) | omega) _ | refine Row.up ?_ (by assumption) | refine Row.chg ?_ (by assumption) (by first | (simp; done) | (simp; omega))))) hu1))
    | ((refine wpList_store_Row rfl 41 (.tmp 2) _ rfl w.heap.size (stC c wd (.slice none 0 0) ph fn fm (.slice (some ⟨gc, 0, none⟩) 0 0) dk) rfl rfl #[.int .i64 0, .int .i64 0, .int .i64 0, .int .i64 0, .int .i64 0, .int .i64 0, .int .i64 0, .int .i64 0, .int .i64 0, .int .i64 0, .int .i64 0, .int .i64 0, .int .i64 0, .int .i64 0, .int .i64 0, .slice none 0 0, .int .i64 0, .int .i64 0, .int .i64 0, .int .i64 0, .int .i64 0, .int .i64 0, .int .i64 0, .int .i64 0, .slice none 0 0, .bool false] (by (repeat' (with_reducible first | assumption | (refine Row.at _ _ ?_; (simp; done)) | refine Row.alloc ?_ _ | refine Row.drew ?_ | refine Row.drewN ?_ _ | refine Row.other ?_ (by first | (simp; done) | (simp; omega) | omega) _ | refine Row.up ?_ (by assumption) | refine Row.chg ?_ (by assumption) (by first | (simp; done) | (simp; omega))))) infoSt rfl rfl (by simp [stC, Value.oneCell']) ?_); intro w9 hr9 hc9))
  (try simp only [Exit.inBlock, Exit.then])
  refine bodyPost_ret (results_st rfl _ _ w.heap.size _ hr9 rfl rfl) rfl ?_
  refine ⟨⟨gc, by omega, Nat.lt_of_lt_of_le hg2 hc9.size, rfl⟩, (show Chg [] w w9 by (repeat' (first | (with_reducible first | exact Chg.refl _ _ | assumption | refine Chg.alloc ?_ _ | refine Chg.drew ?_ | refine Chg.drewN ?_ _ | refine Chg.setCell ?_ ?_ _ | refine Chg.upc ?_ (by assumption) | refine Chg.call ?_ (by assumption) ?_) | (refine Or.inl ?_; (simp; done)) | (simp; done) | (simp; omega) | omega))).up⟩

end Go.Proofs.YtoflafbhfoncmaaDoor.Gs
end
