/- What the functions of package mat return and leave behind, each over all numbers. No condition. -/
import Derived.Test.YtoflafbhfoncmaaDoorFix2
import Derived.Test.YtoflafbhfoncmaaDoorFixS
import Derived.Test.YtoflafbhfoncmaaDoorSlc
import Derived.Test.YtoflafbhfoncmaaDoorMatM
import Derived.Deep.RegionWith
import Derived.Deep.RegionHeld3
namespace Go.Proofs.YtoflafbhfoncmaaDoor.Mat
open Go.ChangeShapes Go.WideShapes Go.ChangeAt Go.RowKit
open Go.Proofs.YtoflafbhfoncmaaDoor.FixM (fits mul div sub add sum)
open Go.Proofs.YtoflafbhfoncmaaDoor.MatM
set_option linter.unusedVariables false
set_option linter.unusedSimpArgs false

theorem took_calls (b : Nat) (e0 n e : Int) (w : World) (hs : One w b (.int .i64 e0)) :
    Calls Tryd.prog 70 #[.pointer (some ⟨b, 0, none⟩), .int .i64 n, .int .i64 e] w fun E w' => E = .returned (.int .i64 n) ∧ One w' b (.int .i64 (keep e0 e)) ∧ Chg [b] w w' := by
  have HS := Lib.hid hs
  have hc := hs.cell
  have hf := hs.free
  clear hs
  by_cases h0 : e0 = 0
  · subst h0
    have H := Lib.hid (show keep 0 e = e from keep0 e)
    go_enter Tryd.func70, Tryd.ntmps70
    go_wp2
    go_ret
    exact ⟨rfl, by rw [H.out]; exact HS.out.set _, by (repeat' (first | (with_reducible exact Chg.refl _ _) | (with_reducible assumption) | (with_reducible refine Chg.alloc ?_ _) | (with_reducible refine Chg.drew ?_) | (with_reducible refine Chg.drewN ?_ _) | (with_reducible refine Chg.setCell ?_ ?_ _) | (with_reducible refine Chg.upc ?_ (by with_reducible assumption)) | (with_reducible refine Chg.call ?_ (by with_reducible assumption) ?_) | (refine Or.inl ?_; (simp; done)) | (simp; done) | (simp; omega) | omega))⟩
  · have hb : (e0 == 0) = false := by simpa using h0
    have H := Lib.hid (show keep e0 e = e0 by simp [keep, h0])
    clear h0
    go_enter Tryd.func70, Tryd.ntmps70
    go_wp2
    go_ret
    exact ⟨rfl, by rw [H.out]; exact HS.out, by (repeat' (first | (with_reducible exact Chg.refl _ _) | (with_reducible assumption) | (with_reducible refine Chg.alloc ?_ _) | (with_reducible refine Chg.drew ?_) | (with_reducible refine Chg.drewN ?_ _) | (with_reducible refine Chg.setCell ?_ ?_ _) | (with_reducible refine Chg.upc ?_ (by with_reducible assumption)) | (with_reducible refine Chg.call ?_ (by with_reducible assumption) ?_) | (refine Or.inl ?_; (simp; done)) | (simp; done) | (simp; omega) | omega))⟩

theorem mul_calls (b : Nat) (e0 x y : Int) (w : World) (hs : One w b (.int .i64 e0)) :
    Calls Tryd.prog 68 #[.pointer (some ⟨b, 0, none⟩), .int .i64 x, .int .i64 y] w fun E w' => E = .returned (.int .i64 (mul x y).1) ∧ One w' b (.int .i64 (keep e0 (mul x y).2)) ∧ Chg [b] w w' := by
  have HS := Lib.hid hs
  clear hs
  go_enter Tryd.func68, Tryd.ntmps68
  go_wp2_with (first
    | (go_at_call 71; ((with_reducible refine (Fix.mul_calls _ _ _).mono ?_); rintro E w1 ⟨rfl, hu1⟩))
    | (go_at_call 70; ((with_reducible refine (took_calls b e0 _ _ _ (HS.out.up (by assumption))).mono ?_); rintro E w2 ⟨rfl, ho, hc⟩)))
  go_ret
  exact ⟨rfl, by assumption, by (repeat' (first | (with_reducible exact Chg.refl _ _) | (with_reducible assumption) | (with_reducible refine Chg.alloc ?_ _) | (with_reducible refine Chg.drew ?_) | (with_reducible refine Chg.drewN ?_ _) | (with_reducible refine Chg.setCell ?_ ?_ _) | (with_reducible refine Chg.upc ?_ (by with_reducible assumption)) | (with_reducible refine Chg.call ?_ (by with_reducible assumption) ?_) | (refine Or.inl ?_; (simp; done)) | (simp; done) | (simp; omega) | omega))⟩

theorem sum_calls (b : Nat) (e0 : Int) (v : Value) (zs : List Int) (w : World) (hs : One w b (.int .i64 e0)) (hv : Ints .i64 w v zs) :
    Calls Tryd.prog 69 #[.pointer (some ⟨b, 0, none⟩), v] w fun E w' => E = .returned (.int .i64 (sum zs).1) ∧ One w' b (.int .i64 (keep e0 (sum zs).2)) ∧ Chg [b] w w' := by
  have HS := Lib.hid hs
  have HV := Lib.hid hv
  obtain ⟨ao, c, rfl, -, -⟩ := hv
  clear hs
  go_enter Tryd.func69, Tryd.ntmps69
  go_wp2_with (first
    | (go_at_call 72; ((with_reducible refine (Fix.sum_calls _ zs _ HV.out).mono ?_); rintro E w1 ⟨rfl, hu1⟩))
    | (go_at_call 70; ((with_reducible refine (took_calls b e0 _ _ _ (HS.out.up (by assumption))).mono ?_); rintro E w2 ⟨rfl, ho, hc⟩)))
  go_ret
  exact ⟨rfl, by assumption, by (repeat' (first | (with_reducible exact Chg.refl _ _) | (with_reducible assumption) | (with_reducible refine Chg.alloc ?_ _) | (with_reducible refine Chg.drew ?_) | (with_reducible refine Chg.drewN ?_ _) | (with_reducible refine Chg.setCell ?_ ?_ _) | (with_reducible refine Chg.upc ?_ (by with_reducible assumption)) | (with_reducible refine Chg.call ?_ (by with_reducible assumption) ?_) | (refine Or.inl ?_; (simp; done)) | (simp; done) | (simp; omega) | omega))⟩

theorem info3 : (Tryd.prog.info? 3).map (fun i => (i.zero, i.size, i.bytes)) = some (some (.int .i64 0), 1, 8) := by kernel_rfl

theorem fits_wf {n : Int} (h : fits n = true) : (Lit.int .i64 n).wf = true := by
  obtain ⟨h1, h2⟩ := FixM.fits_iff.1 h
  exact WalkArith.wf_i64 (by omega)

set_option maxHeartbeats 400000 in
theorem two_calls (b : Nat) (e0 a x c y : Int) (v : Value) (zs : List Int) (w : World) (hs : One w b (.int .i64 e0)) (hv : Ints .i64 w v zs) (hl : zs.length ≤ 1000) (hb : ∀ g, v.ownBlock = some g → g ∉ [b]) :
    Calls Tryd.prog 65 #[.pointer (some ⟨b, 0, none⟩), .int .i64 a, .int .i64 x, .int .i64 c, .int .i64 y, v] w fun E w' => E = .returned (.int .i64 (two e0 a x c y zs).1) ∧ One w' b (.int .i64 (two e0 a x c y zs).2) ∧ Chg [b] w w' := by
  obtain ⟨i0, hi, hz0, hz1, hz2⟩ := info_parts info3
  have HS := Lib.hid hs
  have HV := Lib.hid hv
  have HB := Lib.hid hb
  have hlt := hs.lt
  have HP := Lib.hid (mul_fits a x)
  have HQ := Lib.hid (mul_fits c y)
  obtain ⟨ao, cc, rfl, -, -⟩ := hv
  obtain ⟨p, hp⟩ : ∃ p, (mul a x).1 = p := ⟨_, rfl⟩
  obtain ⟨q, hq⟩ : ∃ q, (mul c y).1 = q := ⟨_, rfl⟩
  have HT : Hid (two e0 a x c y zs = ((sum ([p, q] ++ zs)).1, keep (keep (keep e0 (mul a x).2) (mul c y).2) (sum ([p, q] ++ zs)).2)) := Lib.hid (by rw [two, hp, hq]; rfl)
  have HW : Hid (∀ z ∈ [p, q] ++ zs, (Lit.int .i64 z).wf = true) := Lib.hid (Ints.both (by
    intro z hz
    simp only [List.mem_cons, List.not_mem_nil, or_false] at hz
    rcases hz with rfl | rfl
    · rw [← hp]; exact fits_wf HP.out
    · rw [← hq]; exact fits_wf HQ.out) HV.out.wf)
  clear hs hb
  go_enter Tryd.func65, Tryd.ntmps65
  go_wp2_with (first
    | (go_at_call 68; ((with_reducible refine (mul_calls b e0 a x _ HS.out).mono ?_); rintro E w1 ⟨rfl, ho1, hc1⟩))
    | (go_at_call 68; ((with_reducible refine (mul_calls b _ c y _ ho1).mono ?_); rintro E w2 ⟨rfl, ho2, hc2⟩; have HO := Lib.hid ho2; have HC := Lib.hid (show Chg [b] w w2 by (repeat' (first | (with_reducible exact Chg.refl _ _) | (with_reducible assumption) | (with_reducible refine Chg.alloc ?_ _) | (with_reducible refine Chg.drew ?_) | (with_reducible refine Chg.drewN ?_ _) | (with_reducible refine Chg.setCell ?_ ?_ _) | (with_reducible refine Chg.upc ?_ (by with_reducible assumption)) | (with_reducible refine Chg.call ?_ (by with_reducible assumption) ?_) | (refine Or.inl ?_; (simp; done)) | (simp; done) | (simp; omega) | omega))); have hs2 := HC.out.size; have HI : Hid (Ints .i64 w2 _ zs) := Lib.hid (HV.out.chg HC.out HB.out); clear ho1 ho2 hc1 hc2))
    | (at_builtin; refine wpList_append_any rfl _ _ 27 rfl w2.heap.size 3 i0 (.int .i64 0) 1 8 Tryd.underlying27 hi hz0 hz1 hz2 rfl (by decide) (.slice (some ⟨w2.heap.size, 0, none⟩) 2 2) 2 ([p, q].map (Value.int .i64)) rfl (ownsRow_lit w2 .i64 [p, q] w2.heap.size _ (Nat.le_refl _) (by simp)) ao zs.length cc (zs.map (Value.int .i64)) rfl (by simp) (fun h => by obtain ⟨ao', c', hv, _, _, hn, _⟩ := HI.out.src; injection hv with e1 e2 e3; subst e1 e3; exact hn h) (HI.out.news (Up.alloc (Up.refl w2) _)) (ints_oneCell _ _) (by unfold maxLen; omega) (by omega) (by simp) ?_; intro v3 w3 hown3 hgr3 hnil3; have hup3 : Up w2 w3 := grown_up (Up.alloc (Up.refl w2) _) hgr3 (fun k0 hk0 => by have h4 : w2.heap.size = k0 := (by injection hk0); omega); have HI3 : Hid (Ints .i64 w3 v3 ([p, q] ++ zs)) := Lib.hid (owns_ints (by rw [List.map_append]; exact hown3) HW.out); have HO3 := Lib.hid (HO.out.up hup3); clear hown3 hgr3 hnil3)
    | (go_at_call 69; ((with_reducible refine (sum_calls b _ v3 ([p, q] ++ zs) _ HO3.out HI3.out).mono ?_); rintro E w4 ⟨rfl, ho4, hc4⟩)))
  have HC2 := HC.out
  go_ret
  exact ⟨by rw [HT.out]; rfl, by rw [HT.out]; assumption, by (repeat' (first | (with_reducible exact Chg.refl _ _) | (with_reducible assumption) | (with_reducible refine Chg.alloc ?_ _) | (with_reducible refine Chg.drew ?_) | (with_reducible refine Chg.drewN ?_ _) | (with_reducible refine Chg.setCell ?_ ?_ _) | (with_reducible refine Chg.upc ?_ (by with_reducible assumption)) | (with_reducible refine Chg.call ?_ (by with_reducible assumption) ?_) | (refine Or.inl ?_; (simp; done)) | (simp; done) | (simp; omega) | omega))⟩

theorem point_calls (b : Nat) (e x y : Int) (w : World) (hs : One w b (.int .i64 e)) :
    Calls Tryd.prog 66 #[.pointer (some ⟨b, 0, none⟩), .int .i64 x, .int .i64 y] w fun E w' => E = .returned (.tuple #[.agg #[.int .i64 (pt x y e).1.1, .int .i64 (pt x y e).1.2], .int .i64 (pt x y e).2]) ∧ Up w w' := by
  have hc := hs.cell
  have hlt := hs.lt
  clear hs
  by_cases h0 : e = 0
  · subst h0
    go_enter Tryd.func66, Tryd.ntmps66
    go_wp2
    go_returns
    exact ⟨rfl, by (repeat' (first | (with_reducible exact Up.refl _) | (with_reducible assumption) | (with_reducible refine Up.alloc ?_ _) | (with_reducible refine Up.drew ?_) | (with_reducible refine Up.drewN ?_ _) | (with_reducible refine Up.setCell ?_ ?_ _) | (with_reducible refine Up.call ?_ (by with_reducible assumption)) | go_size))⟩
  · have hb : (e != 0) = true := by simpa using h0
    have H := Lib.hid (show pt x y e = ((0, 0), e) by simp [pt, h0])
    clear h0
    go_enter Tryd.func66, Tryd.ntmps66
    go_wp2
    go_region
    all_goals go_wp2
    all_goals go_returns
    all_goals exact ⟨retv (by rw [H.out]), by (repeat' (first | (with_reducible exact Up.refl _) | (with_reducible assumption) | (with_reducible refine Up.alloc ?_ _) | (with_reducible refine Up.drew ?_) | (with_reducible refine Up.drewN ?_ _) | (with_reducible refine Up.setCell ?_ ?_ _) | (with_reducible refine Up.call ?_ (by with_reducible assumption)) | go_size))⟩

theorem ints_lit' (w : World) {b : Nat} {m : Int} (e : TypeId) (hb : b = w.heap.size) (h : (Lit.int .i64 m).wf = true) : Ints .i64 (w.alloc (.cells #[.int .i64 m] e)) (.slice (some ⟨b, 0, none⟩) 1 1) [m] := by
  subst hb
  exact ints_lit w .i64 [m] e (by simp) (by simpa using h)

set_option maxHeartbeats 400000 in
theorem apply_calls (m0 m1 m2 m3 m4 m5 x y : Int) (w : World) (h4 : (Lit.int .i64 m4).wf = true) (h5 : (Lit.int .i64 m5).wf = true) :
    Calls Tryd.prog 61 #[.agg #[.int .i64 m0, .int .i64 m1, .int .i64 m2, .int .i64 m3, .int .i64 m4, .int .i64 m5], .agg #[.int .i64 x, .int .i64 y]] w fun E w' => E = .returned (.tuple #[.agg #[.int .i64 (apply m0 m1 m2 m3 m4 m5 x y).1.1, .int .i64 (apply m0 m1 m2 m3 m4 m5 x y).1.2], .int .i64 (apply m0 m1 m2 m3 m4 m5 x y).2]) ∧ Up w w' := by
  go_enter Tryd.func61, Tryd.ntmps61
  go_wp2_with (first
    | (go_at_call 65; ((with_reducible refine (two_calls (w.heap.size + 3) 0 m0 x m2 y (.slice (some ⟨w.heap.size + 4, 0, none⟩) 1 1) [m4] _ (by (repeat' (first | (with_reducible assumption) | (with_reducible refine One.at _ _ ?_; (simp; done)) | (with_reducible refine One.alloc ?_ _) | (with_reducible refine One.drew ?_) | (with_reducible refine One.drewN ?_ _) | (with_reducible refine One.other ?_ (by first | (simp; done) | (simp; omega) | omega) _) | (with_reducible refine One.up ?_ (by with_reducible assumption)) | (with_reducible refine One.chg ?_ (by with_reducible assumption) (by first | (simp; done) | (simp; omega)))))) (ints_lit' _ _ (by simp) h4) (by simp) (atBlock (by simp) _ _ _ _)).mono ?_); rintro E w1 ⟨rfl, ho1, hc1⟩; have hk1 := hc1.cells.1; have hz1 : w.heap.size + 4 < w1.heap.size := (by have hzz := hc1.size; simp at hzz; omega); have hr1 : Row w1 (w.heap.size + 2) #[.int .i64 0, .int .i64 0] := (by (repeat' (first | (with_reducible assumption) | (with_reducible refine Row.at _ _ ?_; (simp; done)) | (with_reducible refine Row.alloc ?_ _) | (with_reducible refine Row.drew ?_) | (with_reducible refine Row.drewN ?_ _) | (with_reducible refine Row.other ?_ (by first | (simp; done) | (simp; omega) | omega) _) | (with_reducible refine Row.up ?_ (by with_reducible assumption)) | (with_reducible refine Row.chg ?_ (by with_reducible assumption) (by first | (simp; done) | (simp; omega))))))))
    | (go_at_call 65; ((with_reducible refine (two_calls (w.heap.size + 3) _ m1 x m3 y (.slice (some ⟨w1.heap.size, 0, none⟩) 1 1) [m5] _ (by (repeat' (first | (with_reducible assumption) | (with_reducible refine One.at _ _ ?_; (simp; done)) | (with_reducible refine One.alloc ?_ _) | (with_reducible refine One.drew ?_) | (with_reducible refine One.drewN ?_ _) | (with_reducible refine One.other ?_ (by first | (simp; done) | (simp; omega) | omega) _) | (with_reducible refine One.up ?_ (by with_reducible assumption)) | (with_reducible refine One.chg ?_ (by with_reducible assumption) (by first | (simp; done) | (simp; omega)))))) (ints_lit' w1 _ rfl h5) (by simp) (atBlock (by simp; omega) _ _ _ _)).mono ?_); rintro E w2 ⟨rfl, ho2, hc2⟩; have hz2 : w1.heap.size ≤ w2.heap.size := (by have hzz := hc2.size; (try simp at hzz); omega); have hr2 : Row w2 (w.heap.size + 2) #[.int .i64 0, .int .i64 0] := (by (repeat' (first | (with_reducible assumption) | (with_reducible refine Row.at _ _ ?_; (simp; done)) | (with_reducible refine Row.alloc ?_ _) | (with_reducible refine Row.drew ?_) | (with_reducible refine Row.drewN ?_ _) | (with_reducible refine Row.other ?_ (by first | (simp; done) | (simp; omega) | omega) _) | (with_reducible refine Row.up ?_ (by with_reducible assumption)) | (with_reducible refine Row.chg ?_ (by with_reducible assumption) (by first | (simp; done) | (simp; omega))))))))
    | (go_at_call 66; ((with_reducible refine (point_calls (w.heap.size + 3) _ _ _ _ ho2).mono ?_); rintro E w3 ⟨rfl, hu3⟩; have hz3 := hu3.size; have hr3 := hr2.up hu3; have q0 := hr3.cell 0 rfl; have q1 := hr3.cell 1 rfl; have f0 := hr3.free 0; have f1 := hr3.free 1)))
  exact bodyPost_ret (v := .tuple #[.agg #[.int .i64 (apply m0 m1 m2 m3 m4 m5 x y).1.1, .int .i64 (apply m0 m1 m2 m3 m4 m5 x y).1.2], .int .i64 (apply m0 m1 m2 m3 m4 m5 x y).2]) (by simp [results, Tryd.results61, go_sem, q0, q1, f0, f1, apply, hz1, hz2, hz3]) rfl ⟨rfl, Chg.up (by (repeat' (first | (with_reducible exact Chg.refl _ _) | (with_reducible assumption) | (with_reducible refine Chg.alloc ?_ _) | (with_reducible refine Chg.drew ?_) | (with_reducible refine Chg.drewN ?_ _) | (with_reducible refine Chg.setCell ?_ ?_ _) | (with_reducible refine Chg.upc ?_ (by with_reducible assumption)) | (with_reducible refine Chg.call ?_ (by with_reducible assumption) ?_) | (refine Or.inl ?_; (simp; done)) | (simp; done) | (simp; omega) | omega)))⟩

set_option maxHeartbeats 400000 in
theorem delta_calls (m0 m1 m2 m3 m4 m5 x y : Int) (w : World) :
    Calls Tryd.prog 60 #[.agg #[.int .i64 m0, .int .i64 m1, .int .i64 m2, .int .i64 m3, .int .i64 m4, .int .i64 m5], .agg #[.int .i64 x, .int .i64 y]] w fun E w' => E = .returned (.tuple #[.agg #[.int .i64 (delta m0 m1 m2 m3 x y).1.1, .int .i64 (delta m0 m1 m2 m3 x y).1.2], .int .i64 (delta m0 m1 m2 m3 x y).2]) ∧ Up w w' := by
  go_enter Tryd.func60, Tryd.ntmps60
  go_wp2_with (first
    | (go_at_call 65; ((with_reducible refine (two_calls (w.heap.size + 3) 0 m0 x m2 y (.slice none 0 0) [] _ (by (repeat' (first | (with_reducible assumption) | (with_reducible refine One.at _ _ ?_; (simp; done)) | (with_reducible refine One.alloc ?_ _) | (with_reducible refine One.drew ?_) | (with_reducible refine One.drewN ?_ _) | (with_reducible refine One.other ?_ (by first | (simp; done) | (simp; omega) | omega) _) | (with_reducible refine One.up ?_ (by with_reducible assumption)) | (with_reducible refine One.chg ?_ (by with_reducible assumption) (by first | (simp; done) | (simp; omega)))))) (ints_nil _ _) (by simp) (noBlock _ _ _)).mono ?_); rintro E w1 ⟨rfl, ho1, hc1⟩; have hk1 := hc1.cells.1; have hz1 : w.heap.size + 3 < w1.heap.size := (by have hzz := hc1.size; simp at hzz; omega); have hr1 : Row w1 (w.heap.size + 2) #[.int .i64 0, .int .i64 0] := (by (repeat' (first | (with_reducible assumption) | (with_reducible refine Row.at _ _ ?_; (simp; done)) | (with_reducible refine Row.alloc ?_ _) | (with_reducible refine Row.drew ?_) | (with_reducible refine Row.drewN ?_ _) | (with_reducible refine Row.other ?_ (by first | (simp; done) | (simp; omega) | omega) _) | (with_reducible refine Row.up ?_ (by with_reducible assumption)) | (with_reducible refine Row.chg ?_ (by with_reducible assumption) (by first | (simp; done) | (simp; omega))))))))
    | (go_at_call 65; ((with_reducible refine (two_calls (w.heap.size + 3) _ m1 x m3 y (.slice none 0 0) [] _ ho1 (ints_nil _ _) (by simp) (noBlock _ _ _)).mono ?_); rintro E w2 ⟨rfl, ho2, hc2⟩; have hz2 : w1.heap.size ≤ w2.heap.size := (by have hzz := hc2.size; (try simp at hzz); omega); have hr2 : Row w2 (w.heap.size + 2) #[.int .i64 0, .int .i64 0] := (by (repeat' (first | (with_reducible assumption) | (with_reducible refine Row.at _ _ ?_; (simp; done)) | (with_reducible refine Row.alloc ?_ _) | (with_reducible refine Row.drew ?_) | (with_reducible refine Row.drewN ?_ _) | (with_reducible refine Row.other ?_ (by first | (simp; done) | (simp; omega) | omega) _) | (with_reducible refine Row.up ?_ (by with_reducible assumption)) | (with_reducible refine Row.chg ?_ (by with_reducible assumption) (by first | (simp; done) | (simp; omega))))))))
    | (go_at_call 66; ((with_reducible refine (point_calls (w.heap.size + 3) _ _ _ _ ho2).mono ?_); rintro E w3 ⟨rfl, hu3⟩; have hz3 := hu3.size; have hr3 := hr2.up hu3; have q0 := hr3.cell 0 rfl; have q1 := hr3.cell 1 rfl; have f0 := hr3.free 0; have f1 := hr3.free 1)))
  exact bodyPost_ret (v := .tuple #[.agg #[.int .i64 (delta m0 m1 m2 m3 x y).1.1, .int .i64 (delta m0 m1 m2 m3 x y).1.2], .int .i64 (delta m0 m1 m2 m3 x y).2]) (by simp [results, Tryd.results60, go_sem, q0, q1, f0, f1, delta, hz1, hz2, hz3]) rfl ⟨rfl, Chg.up (by (repeat' (first | (with_reducible exact Chg.refl _ _) | (with_reducible assumption) | (with_reducible refine Chg.alloc ?_ _) | (with_reducible refine Chg.drew ?_) | (with_reducible refine Chg.drewN ?_ _) | (with_reducible refine Chg.setCell ?_ ?_ _) | (with_reducible refine Chg.upc ?_ (by with_reducible assumption)) | (with_reducible refine Chg.call ?_ (by with_reducible assumption) ?_) | (refine Or.inl ?_; (simp; done)) | (simp; done) | (simp; omega) | omega)))⟩

end Go.Proofs.YtoflafbhfoncmaaDoor.Mat
