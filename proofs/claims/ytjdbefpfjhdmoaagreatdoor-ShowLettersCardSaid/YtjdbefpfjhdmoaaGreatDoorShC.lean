/- How far bytes go, in package show; law 16's answers; what show says without a canvas or states. Its condition, of answers: the fonts' names lie as they are laid. -/
import Derived.Test.YtjdbefpfjhdmoaaGreatDoorShA
import Derived.Test.YtjdbefpfjhdmoaaGreatDoorFont
import Derived.Test.YtjdbefpfjhdmoaaGreatDoorSl
namespace Go.Proofs.YtjdbefpfjhdmoaaGreatDoor.Sh
open Go.ChangeShapes Go.WideShapes Go.ChangeAt Go.RowKit
open Go.Proofs.YtjdbefpfjhdmoaaGreatDoor.Gs
open Go.Proofs.YtjdbefpfjhdmoaaGreatDoor.FixM (fits)
open Go.Proofs.YtjdbefpfjhdmoaaGreatDoor.MatM (M6 delta)
open Go.Proofs.YtjdbefpfjhdmoaaGreatDoor.FontM Go.Proofs.YtjdbefpfjhdmoaaGreatDoor.Font
set_option linter.unusedVariables false
set_option linter.unusedSimpArgs false

set_option maxHeartbeats 400000 in
theorem sum_calls (i : Int) (v : Value) (zs : List Int) (w : World) (hv : Ints .u8 w v zs) (hl : zs.length ≤ 100000) :
    Calls Tryz.prog 53 #[.int .i64 i, v] w fun e w' => e = .returned (.int .i64 (sumW i zs)) ∧ Up w w' := by
  obtain ⟨ao, c, rfl, hlc, hcm, hnone, hsome, hwf⟩ := hv
  have HS := Lib.hid hsome
  have HW := Lib.hid hwf
  have HL := Lib.hid hl
  clear hsome hwf hnone
  go_enter Tryz.func53, Tryz.ntmps53
  go_wp2
  go_loopw [5, 10] (fun n j wr => ∃ (k : Nat) (x : Int), k ≤ zs.length ∧ j = .int .i64 k ∧ n = .int .i64 x ∧ Hid (sumW i (zs.take k) = x) ∧ 0 ≤ x ∧ x ≤ 200000000 ∧ Up w wr) (fun _ j _ => zs.length - (intOf j).toNat)
  case atStart => exact ⟨0, 0, Nat.zero_le _, rfl, rfl, Lib.hid rfl, by decide, by decide, Up.refl _⟩
  case round =>
    obtain ⟨k, x, hk, rfl, rfl, HX, hx0, hx1, hup⟩ := hrel
    by_cases hlt : k < zs.length
    · obtain ⟨b, o, rfl, hb, hc⟩ := HS.out (by omega)
      have hcell : wr.cell? ⟨b, o + k, none⟩ = some (.int .u8 (zs.getD k 0)) := by rw [hup.cells.1 b _ hb]; exact hc k hlt
      have hgz : zs.getD k 0 = zs[k] := by simp [List.getD, hlt]
      have hz := bounds_u8 (HW.out (zs.getD k 0) (by rw [hgz]; exact List.getElem_mem hlt))
      have hz0 := hz.1
      have hz1 := hz.2
      have HN : Hid (sumW i (zs.take (k + 1)) = x + width i (zs.getD k 0)) := Lib.hid (by
        rw [List.take_succ_eq_append_getElem hlt, sumW_append, HX.out, hgz]
        simp [sumW])
      have HB := Lib.hid (sumW_bound i (zs.take (k + 1)))
      clear hgz hz hc
      generalize zs.getD k 0 = z at *
      have hw0 := (width_bound i z).1
      have hw1 := (width_bound i z).2
      go_wp2_with (go_at_call 77; ((with_reducible refine (width_calls _ _ _ hz0 hz1).mono ?_); rintro e w' ⟨rfl, hu2⟩))
      go_roundw
      case rel => exact ⟨k + 1, x + width i z, by omega, by go_num, rfl, HN, by omega, by
        have h1 := HB.out
        have h3 := HL.out
        rw [HN.out] at h1
        have h4 : (zs.take (k + 1)).length ≤ 100000 := by simp; omega
        omega, by (repeat' (first | (with_reducible exact Up.refl _) | (with_reducible assumption) | (with_reducible refine Up.alloc ?_ _) | (with_reducible refine Up.drew ?_) | (with_reducible refine Up.drewN ?_ _) | (with_reducible refine Up.setCell ?_ ?_ _) | (with_reducible refine Up.call ?_ (by with_reducible assumption)) | go_size))⟩
      case measure => simp [intOf]; omega
    · have HE : Hid (sumW i zs = x) := Lib.hid (by rw [← HX.out, List.take_of_length_le (by omega)])
      go_wp2
      go_ret
      exact ⟨by rw [HE.out]; rfl, by (repeat' (first | (with_reducible exact Up.refl _) | (with_reducible assumption) | (with_reducible refine Up.alloc ?_ _) | (with_reducible refine Up.drew ?_) | (with_reducible refine Up.drewN ?_ _) | (with_reducible refine Up.setCell ?_ ?_ _) | (with_reducible refine Up.call ?_ (by with_reducible assumption)) | go_size))⟩

set_option maxHeartbeats 400000 in
theorem rsum_calls (i : Int) (v : Value) (zs : List Int) (w : World) (hv : Ints .u8 w v zs) (hl : zs.length ≤ 100000) :
    Calls Tryz.prog 64 #[.int .i64 i, v] w fun e w' => e = .returned (.int .i64 (sumW i zs)) ∧ Up w w' := by
  obtain ⟨ao, c, rfl, hlc, hcm, hnone, hsome, hwf⟩ := hv
  have HS := Lib.hid hsome
  have HW := Lib.hid hwf
  have HL := Lib.hid hl
  clear hsome hwf hnone
  go_enter Tryz.func64, Tryz.ntmps64
  go_wp2
  go_loopw [5, 6] (fun n j wr => ∃ (k : Nat) (x : Int), k ≤ zs.length ∧ j = .int .i64 k ∧ n = .int .i64 x ∧ Hid (sumW i (zs.take k) = x) ∧ 0 ≤ x ∧ x ≤ 200000000 ∧ Up w wr) (fun _ j _ => zs.length - (intOf j).toNat)
  case atStart => exact ⟨0, 0, Nat.zero_le _, rfl, rfl, Lib.hid rfl, by decide, by decide, Up.refl _⟩
  case round =>
    obtain ⟨k, x, hk, rfl, rfl, HX, hx0, hx1, hup⟩ := hrel
    by_cases hlt : k < zs.length
    · obtain ⟨b, o, rfl, hb, hc⟩ := HS.out (by omega)
      have hcell : wr.cell? ⟨b, o + k, none⟩ = some (.int .u8 (zs.getD k 0)) := by rw [hup.cells.1 b _ hb]; exact hc k hlt
      have hgz : zs.getD k 0 = zs[k] := by simp [List.getD, hlt]
      have hz := bounds_u8 (HW.out (zs.getD k 0) (by rw [hgz]; exact List.getElem_mem hlt))
      have hz0 := hz.1
      have hz1 := hz.2
      have HN : Hid (sumW i (zs.take (k + 1)) = x + width i (zs.getD k 0)) := Lib.hid (by
        rw [List.take_succ_eq_append_getElem hlt, sumW_append, HX.out, hgz]
        simp [sumW])
      have HB := Lib.hid (sumW_bound i (zs.take (k + 1)))
      clear hgz hz hc
      generalize zs.getD k 0 = z at *
      have hw0 := (width_bound i z).1
      have hw1 := (width_bound i z).2
      go_wp2_with (go_at_call 90; ((with_reducible refine (rwidth_calls _ _ _ hz0 hz1).mono ?_); rintro e w' ⟨rfl, hu2⟩))
      go_roundw
      case rel => exact ⟨k + 1, x + width i z, by omega, by go_num, rfl, HN, by omega, by
        have h1 := HB.out
        have h3 := HL.out
        rw [HN.out] at h1
        have h4 : (zs.take (k + 1)).length ≤ 100000 := by simp; omega
        omega, by (repeat' (first | (with_reducible exact Up.refl _) | (with_reducible assumption) | (with_reducible refine Up.alloc ?_ _) | (with_reducible refine Up.drew ?_) | (with_reducible refine Up.drewN ?_ _) | (with_reducible refine Up.setCell ?_ ?_ _) | (with_reducible refine Up.call ?_ (by with_reducible assumption)) | go_size))⟩
      case measure => simp [intOf]; omega
    · have HE : Hid (sumW i zs = x) := Lib.hid (by rw [← HX.out, List.take_of_length_le (by omega)])
      go_wp2
      go_ret
      exact ⟨by rw [HE.out]; rfl, by (repeat' (first | (with_reducible exact Up.refl _) | (with_reducible assumption) | (with_reducible refine Up.alloc ?_ _) | (with_reducible refine Up.drew ?_) | (with_reducible refine Up.drewN ?_ _) | (with_reducible refine Up.setCell ?_ ?_ _) | (with_reducible refine Up.call ?_ (by with_reducible assumption)) | go_size))⟩

/-- a number over a thousand, rounded -/
def thou (n : Int) : Int := if 1000 ≤ 2 * (n % 1000) then n / 1000 + 1 else n / 1000
/-- how far letters go -/
def farR (fn : Int) (fm : M6) (zs : List Int) : (Int × Int) × Int := if fits (thou (sumW fn zs * 65536)) then delta fm.a fm.b fm.c fm.d (thou (sumW fn zs * 65536)) 0 else ((0, 0), 18)
abbrev ptE (r : (Int × Int) × Int) : Ending := .returned (.tuple #[.agg #[.int .i64 r.1.1, .int .i64 r.1.2], .int .i64 r.2])
theorem results_pt {fn : Func} (h : fn.results = #[.cell 4 24, .tmp 5]) (tmps : Array Value) (w : World) (b : Nat) (x y e : Int) (hr : Row w b #[.int .i64 x, .int .i64 y]) (e4 : tmps.getD 4 undef = .pointer (some ⟨b, 0, none⟩)) (e5 : tmps.getD 5 undef = .int .i64 e) :
    (results fn tmps).run Tryz.prog w = .ok (.tuple #[.agg #[.int .i64 x, .int .i64 y], .int .i64 e]) w := by
  rw [Array.getD_eq_getD_getElem?] at e4 e5
  have c0 : w.cell? ⟨b, 0, none⟩ = some (.int .i64 x) := hr.cell 0 rfl
  have c1 : w.cell? ⟨b, 1, none⟩ = some (.int .i64 y) := hr.cell 1 rfl
  simp [results, h, go_sem, e4, e5, c0, c1]

set_option maxRecDepth 8000 in
set_option maxHeartbeats 2000000 in
theorem far_calls (c : M6) (wd ph fn : Int) (fm : M6) (clips : Value) (dk : Bool) (v : Value) (zs : List Int) (w : World) (hv : Ints .u8 w v zs) (hl : zs.length ≤ 100000) :
    Calls Tryz.prog 24 #[.agg #[.int .i64 c.a, .int .i64 c.b, .int .i64 c.c, .int .i64 c.d, .int .i64 c.x, .int .i64 c.y, .int .i64 1, .int .i64 0, .int .i64 0, .int .i64 0, .int .i64 0, .int .i64 wd, .int .i64 0, .int .i64 0, .int .i64 655360, .slice none 0 0, .int .i64 ph, .int .i64 fn, .int .i64 fm.a, .int .i64 fm.b, .int .i64 fm.c, .int .i64 fm.d, .int .i64 fm.x, .int .i64 fm.y, clips, .bool dk], v] w fun E w' => E = ptE (farR fn fm zs) ∧ Up w w' := by
  have HV := Lib.hid hv
  clear hv
  have hb := sumW_bound fn zs
  obtain ⟨X, hX⟩ : ∃ X, sumW fn zs = X := ⟨_, rfl⟩
  rw [hX] at hb
  have HX := Lib.hid hX
  obtain ⟨N, hN⟩ : ∃ N, X * 65536 = N := ⟨_, rfl⟩
  have hX0 : 0 ≤ X := hb.1
  have hX1 : X ≤ 200000000 := by omega
  have hN0 : 0 ≤ N := by omega
  have hN1 : N ≤ 13107200000000 := by omega
  obtain ⟨q, hq⟩ : ∃ q, N / 1000 = q := ⟨_, rfl⟩
  obtain ⟨r, hr⟩ : ∃ r, N % 1000 = r := ⟨_, rfl⟩
  have hq2 : N.tdiv 1000 = q := by rw [Int.tdiv_eq_ediv_of_nonneg hN0]; exact hq
  have hr2 : N.tmod 1000 = r := by rw [Int.tmod_eq_emod_of_nonneg hN0]; exact hr
  have hr0 : 0 ≤ r := by omega
  have hr1 : r < 1000 := by omega
  have hq0 : 0 ≤ q := by omega
  have hq1 : q ≤ 13107200000 := by omega
  have hE : farR fn fm zs = (if fits (thou N) then delta fm.a fm.b fm.c fm.d (thou N) 0 else ((0, 0), 18)) := by unfold farR; rw [hX, hN]
  obtain ⟨Q, hQ⟩ : ∃ Q, thou N = Q := ⟨_, rfl⟩
  rw [hQ] at hE
  obtain ⟨D, hD⟩ : ∃ D, delta fm.a fm.b fm.c fm.d Q 0 = D := ⟨_, rfl⟩
  rw [hD] at hE
  have HD := Lib.hid hD
  have HE := Lib.hid hE
  clear hX hb hE hD
  unfold thou at hQ
  rw [hr, hq] at hQ
  have two : ∃ dd, decide (1000 ≤ 2 * r) = dd ∧ Q = bif dd then q + 1 else q := by
    by_cases h1 : 1000 ≤ 2 * r
    · exact ⟨true, decide_eq_true h1, by rw [if_pos h1] at hQ; exact hQ.symm⟩
    · exact ⟨false, decide_eq_false h1, by rw [if_neg h1] at hQ; exact hQ.symm⟩
  clear hQ
  obtain ⟨dd, hdd, hQ⟩ := two
  cases dd
  all_goals
    simp only [cond_true, cond_false] at hQ
    subst hQ
    cases hf : fits _
  all_goals have HF := Lib.hid hf
  all_goals clear hf
  next =>
    have HE2 := Lib.hid (show farR fn fm zs = ((0, 0), 18) by rw [HE.out, HF.out]; rfl)
    go_enter Tryz.func24, Tryz.ntmps24
    go_wp2_with (first
      | (go_at_call 53; ((with_reducible refine (sum_calls fn v zs _ (HV.out.up (by (repeat' (first | (with_reducible exact Up.refl _) | (with_reducible assumption) | (with_reducible refine Up.alloc ?_ _) | (with_reducible refine Up.drew ?_) | (with_reducible refine Up.drewN ?_ _) | (with_reducible refine Up.setCell ?_ ?_ _) | (with_reducible refine Up.call ?_ (by with_reducible assumption)) | go_size)))) hl).mono ?_); rw [HX.out]; rintro E w1 ⟨rfl, hu1⟩; have z1 := hu1.size; (try simp at z1); have RS1 := Row.up (show Row _ w.heap.size #[.int .i64 c.a, .int .i64 c.b, .int .i64 c.c, .int .i64 c.d, .int .i64 c.x, .int .i64 c.y, .int .i64 1, .int .i64 0, .int .i64 0, .int .i64 0, .int .i64 0, .int .i64 wd, .int .i64 0, .int .i64 0, .int .i64 655360, .slice none 0 0, .int .i64 ph, .int .i64 fn, .int .i64 fm.a, .int .i64 fm.b, .int .i64 fm.c, .int .i64 fm.d, .int .i64 fm.x, .int .i64 fm.y, clips, .bool dk] by (repeat' (first | (with_reducible assumption) | (with_reducible refine Row.at _ _ ?_; (simp; done)) | (with_reducible refine Row.alloc ?_ _) | (with_reducible refine Row.drew ?_) | (with_reducible refine Row.drewN ?_ _) | (with_reducible refine Row.other ?_ (by first | (simp; done) | (simp; omega) | omega) _) | (with_reducible refine Row.up ?_ (by with_reducible assumption)) | (with_reducible refine Row.chg ?_ (by with_reducible assumption) (by first | (simp; done) | (simp; omega)))))) hu1; have RP1 := Row.up (show Row _ (w.heap.size + 1) #[.int .i64 0, .int .i64 0] by (repeat' (first | (with_reducible assumption) | (with_reducible refine Row.at _ _ ?_; (simp; done)) | (with_reducible refine Row.alloc ?_ _) | (with_reducible refine Row.drew ?_) | (with_reducible refine Row.drewN ?_ _) | (with_reducible refine Row.other ?_ (by first | (simp; done) | (simp; omega) | omega) _) | (with_reducible refine Row.up ?_ (by with_reducible assumption)) | (with_reducible refine Row.chg ?_ (by with_reducible assumption) (by first | (simp; done) | (simp; omega)))))) hu1; have m1_18 : w1.cell? ⟨w.heap.size, 18, none⟩ = some (.int .i64 fm.a) := RS1.cell 18 rfl; have m1_19 : w1.cell? ⟨w.heap.size, 19, none⟩ = some (.int .i64 fm.b) := RS1.cell 19 rfl; have m1_20 : w1.cell? ⟨w.heap.size, 20, none⟩ = some (.int .i64 fm.c) := RS1.cell 20 rfl; have m1_21 : w1.cell? ⟨w.heap.size, 21, none⟩ = some (.int .i64 fm.d) := RS1.cell 21 rfl; have m1_22 : w1.cell? ⟨w.heap.size, 22, none⟩ = some (.int .i64 fm.x) := RS1.cell 22 rfl; have m1_23 : w1.cell? ⟨w.heap.size, 23, none⟩ = some (.int .i64 fm.y) := RS1.cell 23 rfl; have p1_0 : w1.cell? ⟨w.heap.size + 1, 0, none⟩ = some (.int .i64 0) := RP1.cell 0 rfl; have pf1_0 := RP1.free 0; have p1_1 : w1.cell? ⟨w.heap.size + 1, 1, none⟩ = some (.int .i64 0) := RP1.cell 1 rfl; have pf1_1 := RP1.free 1))
      | (go_at_call 54; ((with_reducible refine (Fix.fits_calls _ _).mono ?_); rw [HF.out]; rintro E w2 ⟨rfl, rfl⟩))
      | (go_at_call 55; ((with_reducible refine (Mat.delta_calls fm.a fm.b fm.c fm.d fm.x fm.y _ 0 _).mono ?_); rw [HD.out]; rintro E w3 ⟨rfl, hu3⟩; have z3 := hu3.size; have RP3 := RP1.up hu3; have p3_0 : w3.cell? ⟨w.heap.size + 1, 0, none⟩ = some (.int .i64 0) := RP3.cell 0 rfl; have pf3_0 := RP3.free 0; have p3_1 : w3.cell? ⟨w.heap.size + 1, 1, none⟩ = some (.int .i64 0) := RP3.cell 1 rfl; have pf3_1 := RP3.free 1)))
    (try simp only [Exit.inBlock, Exit.then])
    refine bodyPost_ret (results_pt rfl _ _ (w.heap.size + 1) 0 0 18 (show Row _ (w.heap.size + 1) #[.int .i64 0, .int .i64 0] from (by apply cast; (case h => (repeat (first | (with_reducible assumption) | (with_reducible apply Row.at; (simp; done)) | (with_reducible apply Row.alloc) | (with_reducible apply Row.drew) | (with_reducible apply Row.drewN) | (with_reducible apply Row.set) | ((with_reducible apply Row.other); (case hp => first | (simp; done) | (simp; omega) | omega))))); (case e => rfl))) rfl rfl) rfl ?_
    exact ⟨by rw [HE2.out], (show Chg [] w _ by (repeat' (first | (with_reducible exact Chg.refl _ _) | (with_reducible assumption) | (with_reducible refine Chg.alloc ?_ _) | (with_reducible refine Chg.drew ?_) | (with_reducible refine Chg.drewN ?_ _) | (with_reducible refine Chg.setCell ?_ ?_ _) | (with_reducible refine Chg.upc ?_ (by with_reducible assumption)) | (with_reducible refine Chg.call ?_ (by with_reducible assumption) ?_) | (refine Or.inl ?_; (simp; done)) | (simp; done) | (simp; omega) | omega))).up⟩
  next =>
    have HE2 := Lib.hid (show farR fn fm zs = D by rw [HE.out, HF.out]; rfl)
    go_enter Tryz.func24, Tryz.ntmps24
    go_wp2_with (first
      | (go_at_call 53; ((with_reducible refine (sum_calls fn v zs _ (HV.out.up (by (repeat' (first | (with_reducible exact Up.refl _) | (with_reducible assumption) | (with_reducible refine Up.alloc ?_ _) | (with_reducible refine Up.drew ?_) | (with_reducible refine Up.drewN ?_ _) | (with_reducible refine Up.setCell ?_ ?_ _) | (with_reducible refine Up.call ?_ (by with_reducible assumption)) | go_size)))) hl).mono ?_); rw [HX.out]; rintro E w1 ⟨rfl, hu1⟩; have z1 := hu1.size; (try simp at z1); have RS1 := Row.up (show Row _ w.heap.size #[.int .i64 c.a, .int .i64 c.b, .int .i64 c.c, .int .i64 c.d, .int .i64 c.x, .int .i64 c.y, .int .i64 1, .int .i64 0, .int .i64 0, .int .i64 0, .int .i64 0, .int .i64 wd, .int .i64 0, .int .i64 0, .int .i64 655360, .slice none 0 0, .int .i64 ph, .int .i64 fn, .int .i64 fm.a, .int .i64 fm.b, .int .i64 fm.c, .int .i64 fm.d, .int .i64 fm.x, .int .i64 fm.y, clips, .bool dk] by (repeat' (first | (with_reducible assumption) | (with_reducible refine Row.at _ _ ?_; (simp; done)) | (with_reducible refine Row.alloc ?_ _) | (with_reducible refine Row.drew ?_) | (with_reducible refine Row.drewN ?_ _) | (with_reducible refine Row.other ?_ (by first | (simp; done) | (simp; omega) | omega) _) | (with_reducible refine Row.up ?_ (by with_reducible assumption)) | (with_reducible refine Row.chg ?_ (by with_reducible assumption) (by first | (simp; done) | (simp; omega)))))) hu1; have RP1 := Row.up (show Row _ (w.heap.size + 1) #[.int .i64 0, .int .i64 0] by (repeat' (first | (with_reducible assumption) | (with_reducible refine Row.at _ _ ?_; (simp; done)) | (with_reducible refine Row.alloc ?_ _) | (with_reducible refine Row.drew ?_) | (with_reducible refine Row.drewN ?_ _) | (with_reducible refine Row.other ?_ (by first | (simp; done) | (simp; omega) | omega) _) | (with_reducible refine Row.up ?_ (by with_reducible assumption)) | (with_reducible refine Row.chg ?_ (by with_reducible assumption) (by first | (simp; done) | (simp; omega)))))) hu1; have m1_18 : w1.cell? ⟨w.heap.size, 18, none⟩ = some (.int .i64 fm.a) := RS1.cell 18 rfl; have m1_19 : w1.cell? ⟨w.heap.size, 19, none⟩ = some (.int .i64 fm.b) := RS1.cell 19 rfl; have m1_20 : w1.cell? ⟨w.heap.size, 20, none⟩ = some (.int .i64 fm.c) := RS1.cell 20 rfl; have m1_21 : w1.cell? ⟨w.heap.size, 21, none⟩ = some (.int .i64 fm.d) := RS1.cell 21 rfl; have m1_22 : w1.cell? ⟨w.heap.size, 22, none⟩ = some (.int .i64 fm.x) := RS1.cell 22 rfl; have m1_23 : w1.cell? ⟨w.heap.size, 23, none⟩ = some (.int .i64 fm.y) := RS1.cell 23 rfl; have p1_0 : w1.cell? ⟨w.heap.size + 1, 0, none⟩ = some (.int .i64 0) := RP1.cell 0 rfl; have pf1_0 := RP1.free 0; have p1_1 : w1.cell? ⟨w.heap.size + 1, 1, none⟩ = some (.int .i64 0) := RP1.cell 1 rfl; have pf1_1 := RP1.free 1))
      | (go_at_call 54; ((with_reducible refine (Fix.fits_calls _ _).mono ?_); rw [HF.out]; rintro E w2 ⟨rfl, rfl⟩))
      | (go_at_call 55; ((with_reducible refine (Mat.delta_calls fm.a fm.b fm.c fm.d fm.x fm.y _ 0 _).mono ?_); rw [HD.out]; rintro E w3 ⟨rfl, hu3⟩; have z3 := hu3.size; have RP3 := RP1.up hu3; have p3_0 : w3.cell? ⟨w.heap.size + 1, 0, none⟩ = some (.int .i64 0) := RP3.cell 0 rfl; have pf3_0 := RP3.free 0; have p3_1 : w3.cell? ⟨w.heap.size + 1, 1, none⟩ = some (.int .i64 0) := RP3.cell 1 rfl; have pf3_1 := RP3.free 1)))
    (try simp only [Exit.inBlock, Exit.then])
    refine bodyPost_ret (results_pt rfl _ _ (w.heap.size + 1) D.1.1 D.1.2 D.2 (show Row _ (w.heap.size + 1) #[.int .i64 D.1.1, .int .i64 D.1.2] from (by apply cast; (case h => (repeat (first | (with_reducible assumption) | (with_reducible apply Row.at; (simp; done)) | (with_reducible apply Row.alloc) | (with_reducible apply Row.drew) | (with_reducible apply Row.drewN) | (with_reducible apply Row.set) | ((with_reducible apply Row.other); (case hp => first | (simp; done) | (simp; omega) | omega))))); (case e => rfl))) rfl rfl) rfl ?_
    exact ⟨by rw [HE2.out], (show Chg [] w _ by (repeat' (first | (with_reducible exact Chg.refl _ _) | (with_reducible assumption) | (with_reducible refine Chg.alloc ?_ _) | (with_reducible refine Chg.drew ?_) | (with_reducible refine Chg.drewN ?_ _) | (with_reducible refine Chg.setCell ?_ ?_ _) | (with_reducible refine Chg.upc ?_ (by with_reducible assumption)) | (with_reducible refine Chg.call ?_ (by with_reducible assumption) ?_) | (refine Or.inl ?_; (simp; done)) | (simp; done) | (simp; omega) | omega))).up⟩
  next =>
    have HE2 := Lib.hid (show farR fn fm zs = ((0, 0), 18) by rw [HE.out, HF.out]; rfl)
    go_enter Tryz.func24, Tryz.ntmps24
    go_wp2_with (first
      | (go_at_call 53; ((with_reducible refine (sum_calls fn v zs _ (HV.out.up (by (repeat' (first | (with_reducible exact Up.refl _) | (with_reducible assumption) | (with_reducible refine Up.alloc ?_ _) | (with_reducible refine Up.drew ?_) | (with_reducible refine Up.drewN ?_ _) | (with_reducible refine Up.setCell ?_ ?_ _) | (with_reducible refine Up.call ?_ (by with_reducible assumption)) | go_size)))) hl).mono ?_); rw [HX.out]; rintro E w1 ⟨rfl, hu1⟩; have z1 := hu1.size; (try simp at z1); have RS1 := Row.up (show Row _ w.heap.size #[.int .i64 c.a, .int .i64 c.b, .int .i64 c.c, .int .i64 c.d, .int .i64 c.x, .int .i64 c.y, .int .i64 1, .int .i64 0, .int .i64 0, .int .i64 0, .int .i64 0, .int .i64 wd, .int .i64 0, .int .i64 0, .int .i64 655360, .slice none 0 0, .int .i64 ph, .int .i64 fn, .int .i64 fm.a, .int .i64 fm.b, .int .i64 fm.c, .int .i64 fm.d, .int .i64 fm.x, .int .i64 fm.y, clips, .bool dk] by (repeat' (first | (with_reducible assumption) | (with_reducible refine Row.at _ _ ?_; (simp; done)) | (with_reducible refine Row.alloc ?_ _) | (with_reducible refine Row.drew ?_) | (with_reducible refine Row.drewN ?_ _) | (with_reducible refine Row.other ?_ (by first | (simp; done) | (simp; omega) | omega) _) | (with_reducible refine Row.up ?_ (by with_reducible assumption)) | (with_reducible refine Row.chg ?_ (by with_reducible assumption) (by first | (simp; done) | (simp; omega)))))) hu1; have RP1 := Row.up (show Row _ (w.heap.size + 1) #[.int .i64 0, .int .i64 0] by (repeat' (first | (with_reducible assumption) | (with_reducible refine Row.at _ _ ?_; (simp; done)) | (with_reducible refine Row.alloc ?_ _) | (with_reducible refine Row.drew ?_) | (with_reducible refine Row.drewN ?_ _) | (with_reducible refine Row.other ?_ (by first | (simp; done) | (simp; omega) | omega) _) | (with_reducible refine Row.up ?_ (by with_reducible assumption)) | (with_reducible refine Row.chg ?_ (by with_reducible assumption) (by first | (simp; done) | (simp; omega)))))) hu1; have m1_18 : w1.cell? ⟨w.heap.size, 18, none⟩ = some (.int .i64 fm.a) := RS1.cell 18 rfl; have m1_19 : w1.cell? ⟨w.heap.size, 19, none⟩ = some (.int .i64 fm.b) := RS1.cell 19 rfl; have m1_20 : w1.cell? ⟨w.heap.size, 20, none⟩ = some (.int .i64 fm.c) := RS1.cell 20 rfl; have m1_21 : w1.cell? ⟨w.heap.size, 21, none⟩ = some (.int .i64 fm.d) := RS1.cell 21 rfl; have m1_22 : w1.cell? ⟨w.heap.size, 22, none⟩ = some (.int .i64 fm.x) := RS1.cell 22 rfl; have m1_23 : w1.cell? ⟨w.heap.size, 23, none⟩ = some (.int .i64 fm.y) := RS1.cell 23 rfl; have p1_0 : w1.cell? ⟨w.heap.size + 1, 0, none⟩ = some (.int .i64 0) := RP1.cell 0 rfl; have pf1_0 := RP1.free 0; have p1_1 : w1.cell? ⟨w.heap.size + 1, 1, none⟩ = some (.int .i64 0) := RP1.cell 1 rfl; have pf1_1 := RP1.free 1))
      | (go_at_call 54; ((with_reducible refine (Fix.fits_calls _ _).mono ?_); rw [HF.out]; rintro E w2 ⟨rfl, rfl⟩))
      | (go_at_call 55; ((with_reducible refine (Mat.delta_calls fm.a fm.b fm.c fm.d fm.x fm.y _ 0 _).mono ?_); rw [HD.out]; rintro E w3 ⟨rfl, hu3⟩; have z3 := hu3.size; have RP3 := RP1.up hu3; have p3_0 : w3.cell? ⟨w.heap.size + 1, 0, none⟩ = some (.int .i64 0) := RP3.cell 0 rfl; have pf3_0 := RP3.free 0; have p3_1 : w3.cell? ⟨w.heap.size + 1, 1, none⟩ = some (.int .i64 0) := RP3.cell 1 rfl; have pf3_1 := RP3.free 1)))
    (try simp only [Exit.inBlock, Exit.then])
    refine bodyPost_ret (results_pt rfl _ _ (w.heap.size + 1) 0 0 18 (show Row _ (w.heap.size + 1) #[.int .i64 0, .int .i64 0] from (by apply cast; (case h => (repeat (first | (with_reducible assumption) | (with_reducible apply Row.at; (simp; done)) | (with_reducible apply Row.alloc) | (with_reducible apply Row.drew) | (with_reducible apply Row.drewN) | (with_reducible apply Row.set) | ((with_reducible apply Row.other); (case hp => first | (simp; done) | (simp; omega) | omega))))); (case e => rfl))) rfl rfl) rfl ?_
    exact ⟨by rw [HE2.out], (show Chg [] w _ by (repeat' (first | (with_reducible exact Chg.refl _ _) | (with_reducible assumption) | (with_reducible refine Chg.alloc ?_ _) | (with_reducible refine Chg.drew ?_) | (with_reducible refine Chg.drewN ?_ _) | (with_reducible refine Chg.setCell ?_ ?_ _) | (with_reducible refine Chg.upc ?_ (by with_reducible assumption)) | (with_reducible refine Chg.call ?_ (by with_reducible assumption) ?_) | (refine Or.inl ?_; (simp; done)) | (simp; done) | (simp; omega) | omega))).up⟩
  next =>
    have HE2 := Lib.hid (show farR fn fm zs = D by rw [HE.out, HF.out]; rfl)
    go_enter Tryz.func24, Tryz.ntmps24
    go_wp2_with (first
      | (go_at_call 53; ((with_reducible refine (sum_calls fn v zs _ (HV.out.up (by (repeat' (first | (with_reducible exact Up.refl _) | (with_reducible assumption) | (with_reducible refine Up.alloc ?_ _) | (with_reducible refine Up.drew ?_) | (with_reducible refine Up.drewN ?_ _) | (with_reducible refine Up.setCell ?_ ?_ _) | (with_reducible refine Up.call ?_ (by with_reducible assumption)) | go_size)))) hl).mono ?_); rw [HX.out]; rintro E w1 ⟨rfl, hu1⟩; have z1 := hu1.size; (try simp at z1); have RS1 := Row.up (show Row _ w.heap.size #[.int .i64 c.a, .int .i64 c.b, .int .i64 c.c, .int .i64 c.d, .int .i64 c.x, .int .i64 c.y, .int .i64 1, .int .i64 0, .int .i64 0, .int .i64 0, .int .i64 0, .int .i64 wd, .int .i64 0, .int .i64 0, .int .i64 655360, .slice none 0 0, .int .i64 ph, .int .i64 fn, .int .i64 fm.a, .int .i64 fm.b, .int .i64 fm.c, .int .i64 fm.d, .int .i64 fm.x, .int .i64 fm.y, clips, .bool dk] by (repeat' (first | (with_reducible assumption) | (with_reducible refine Row.at _ _ ?_; (simp; done)) | (with_reducible refine Row.alloc ?_ _) | (with_reducible refine Row.drew ?_) | (with_reducible refine Row.drewN ?_ _) | (with_reducible refine Row.other ?_ (by first | (simp; done) | (simp; omega) | omega) _) | (with_reducible refine Row.up ?_ (by with_reducible assumption)) | (with_reducible refine Row.chg ?_ (by with_reducible assumption) (by first | (simp; done) | (simp; omega)))))) hu1; have RP1 := Row.up (show Row _ (w.heap.size + 1) #[.int .i64 0, .int .i64 0] by (repeat' (first | (with_reducible assumption) | (with_reducible refine Row.at _ _ ?_; (simp; done)) | (with_reducible refine Row.alloc ?_ _) | (with_reducible refine Row.drew ?_) | (with_reducible refine Row.drewN ?_ _) | (with_reducible refine Row.other ?_ (by first | (simp; done) | (simp; omega) | omega) _) | (with_reducible refine Row.up ?_ (by with_reducible assumption)) | (with_reducible refine Row.chg ?_ (by with_reducible assumption) (by first | (simp; done) | (simp; omega)))))) hu1; have m1_18 : w1.cell? ⟨w.heap.size, 18, none⟩ = some (.int .i64 fm.a) := RS1.cell 18 rfl; have m1_19 : w1.cell? ⟨w.heap.size, 19, none⟩ = some (.int .i64 fm.b) := RS1.cell 19 rfl; have m1_20 : w1.cell? ⟨w.heap.size, 20, none⟩ = some (.int .i64 fm.c) := RS1.cell 20 rfl; have m1_21 : w1.cell? ⟨w.heap.size, 21, none⟩ = some (.int .i64 fm.d) := RS1.cell 21 rfl; have m1_22 : w1.cell? ⟨w.heap.size, 22, none⟩ = some (.int .i64 fm.x) := RS1.cell 22 rfl; have m1_23 : w1.cell? ⟨w.heap.size, 23, none⟩ = some (.int .i64 fm.y) := RS1.cell 23 rfl; have p1_0 : w1.cell? ⟨w.heap.size + 1, 0, none⟩ = some (.int .i64 0) := RP1.cell 0 rfl; have pf1_0 := RP1.free 0; have p1_1 : w1.cell? ⟨w.heap.size + 1, 1, none⟩ = some (.int .i64 0) := RP1.cell 1 rfl; have pf1_1 := RP1.free 1))
      | (go_at_call 54; ((with_reducible refine (Fix.fits_calls _ _).mono ?_); rw [HF.out]; rintro E w2 ⟨rfl, rfl⟩))
      | (go_at_call 55; ((with_reducible refine (Mat.delta_calls fm.a fm.b fm.c fm.d fm.x fm.y _ 0 _).mono ?_); rw [HD.out]; rintro E w3 ⟨rfl, hu3⟩; have z3 := hu3.size; have RP3 := RP1.up hu3; have p3_0 : w3.cell? ⟨w.heap.size + 1, 0, none⟩ = some (.int .i64 0) := RP3.cell 0 rfl; have pf3_0 := RP3.free 0; have p3_1 : w3.cell? ⟨w.heap.size + 1, 1, none⟩ = some (.int .i64 0) := RP3.cell 1 rfl; have pf3_1 := RP3.free 1)))
    (try simp only [Exit.inBlock, Exit.then])
    refine bodyPost_ret (results_pt rfl _ _ (w.heap.size + 1) D.1.1 D.1.2 D.2 (show Row _ (w.heap.size + 1) #[.int .i64 D.1.1, .int .i64 D.1.2] from (by apply cast; (case h => (repeat (first | (with_reducible assumption) | (with_reducible apply Row.at; (simp; done)) | (with_reducible apply Row.alloc) | (with_reducible apply Row.drew) | (with_reducible apply Row.drewN) | (with_reducible apply Row.set) | ((with_reducible apply Row.other); (case hp => first | (simp; done) | (simp; omega) | omega))))); (case e => rfl))) rfl rfl) rfl ?_
    exact ⟨by rw [HE2.out], (show Chg [] w _ by (repeat' (first | (with_reducible exact Chg.refl _ _) | (with_reducible assumption) | (with_reducible refine Chg.alloc ?_ _) | (with_reducible refine Chg.drew ?_) | (with_reducible refine Chg.drewN ?_ _) | (with_reducible refine Chg.setCell ?_ ?_ _) | (with_reducible refine Chg.upc ?_ (by with_reducible assumption)) | (with_reducible refine Chg.call ?_ (by with_reducible assumption) ?_) | (refine Or.inl ?_; (simp; done)) | (simp; done) | (simp; omega) | omega))).up⟩

end Go.Proofs.YtjdbefpfjhdmoaaGreatDoor.Sh