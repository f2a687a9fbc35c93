/- FontSums: for every number and every two lists of letters the law returns true. Its card lists the package-level variable font.names as the program's text lays it. No other condition. -/
import Derived.Test.YtcldhlppnedcjaaDoorFontL
import Derived.Test.YtcldhlppnedcjaaDoorSl
namespace Go.Proofs.YtcldhlppnedcjaaDoor.fontSums
open Go.ChangeShapes Go.WideShapes Go.ChangeAt Go.RowKit
open Go.Proofs.YtcldhlppnedcjaaDoor.FontM Go.Proofs.YtcldhlppnedcjaaDoor.Font
set_option linter.unusedVariables false

set_option maxHeartbeats 400000 in
theorem sum_calls (i : Int) (v : Value) (zs : List Int) (w : World) (hv : Ints .u8 w v zs) (hl : zs.length ≤ 100000) :
    Calls Tryd.prog 10 #[.int .i64 i, v] w fun e w' => e = .returned (.int .i64 (sumW i zs)) ∧ Up w w' := by
  obtain ⟨ao, c, rfl, hlc, hcm, hnone, hsome, hwf⟩ := hv
  have HS := Lib.hid hsome
  have HW := Lib.hid hwf
  have HL := Lib.hid hl
  clear hsome hwf hnone
  go_enter Tryd.func10, Tryd.ntmps10
  go_wp2
  go_loopw [5, 10] (fun n j wr => ∃ (k : Nat) (x : Int), k ≤ zs.length ∧ j = .int .i64 k ∧ n = .int .i64 x ∧ Hid (sumW i (zs.take k) = x) ∧ 0 ≤ x ∧ x ≤ 200000000 ∧ Up w wr) (fun _ j _ => zs.length - (intOf j).toNat)
  case atStart => exact ⟨0, 0, Nat.zero_le _, rfl, rfl, Lib.hid rfl, by decide, by decide, Up.refl _⟩
  case round =>
    obtain ⟨k, x, hk, rfl, rfl, HX, hx0, hx1, hup⟩ := hrel
    by_cases hlt : k < zs.length
    · obtain ⟨b, o, rfl, hb, hc⟩ := HS.out (by omega)
      have hcell : wr.cell? ⟨b, o + k, none⟩ = some (.int .u8 (zs.getD k 0)) := by rw [hup.cells.1 b _ hb]; exact hc k hlt
      have hgz : zs.getD k 0 = zs[k] := by simp [List.getD, hlt]
      have hz := bounds_u8 (HW.out (zs.getD k 0) (by rw [hgz]; exact List.getElem_mem hlt))
      have hz0 := hz.1
      have hz1 := hz.2
      have HN : Hid (sumW i (zs.take (k + 1)) = x + width i (zs.getD k 0)) := Lib.hid (by
        rw [List.take_succ_eq_append_getElem hlt, sumW_append, HX.out, hgz]
        simp [sumW])
      have HB := Lib.hid (sumW_bound i (zs.take (k + 1)))
      clear hgz hz hc
      generalize zs.getD k 0 = z at *
      have hw0 := (width_bound i z).1
      have hw1 := (width_bound i z).2
      go_wp2_with (go_at_call 8; ((with_reducible refine (width_calls _ _ _ hz0 hz1).mono ?_); rintro e w' ⟨rfl, hu2⟩))
      go_roundw
      case rel => exact ⟨k + 1, x + width i z, by omega, by go_num, rfl, HN, by omega, by
        have h1 := HB.out
        have h3 := HL.out
        rw [HN.out] at h1
        have h4 : (zs.take (k + 1)).length ≤ 100000 := by simp; omega
        omega, by (repeat' (first | (with_reducible exact Up.refl _) | (with_reducible assumption) | (with_reducible refine Up.alloc ?_ _) | (with_reducible refine Up.drew ?_) | (with_reducible refine Up.drewN ?_ _) | (with_reducible refine Up.setCell ?_ ?_ _) | (with_reducible refine Up.call ?_ (by with_reducible assumption)) | go_size))⟩
      case measure => simp [intOf]; omega
    · have HE : Hid (sumW i zs = x) := Lib.hid (by rw [← HX.out, List.take_of_length_le (by omega)])
      go_wp2
      go_ret
      exact ⟨by rw [HE.out]; rfl, by (repeat' (first | (with_reducible exact Up.refl _) | (with_reducible assumption) | (with_reducible refine Up.alloc ?_ _) | (with_reducible refine Up.drew ?_) | (with_reducible refine Up.drewN ?_ _) | (with_reducible refine Up.setCell ?_ ?_ _) | (with_reducible refine Up.call ?_ (by with_reducible assumption)) | go_size))⟩

set_option maxHeartbeats 400000 in
theorem rsum_calls (i : Int) (v : Value) (zs : List Int) (w : World) (hv : Ints .u8 w v zs) (hl : zs.length ≤ 100000) :
    Calls Tryd.prog 11 #[.int .i64 i, v] w fun e w' => e = .returned (.int .i64 (sumW i zs)) ∧ Up w w' := by
  obtain ⟨ao, c, rfl, hlc, hcm, hnone, hsome, hwf⟩ := hv
  have HS := Lib.hid hsome
  have HW := Lib.hid hwf
  have HL := Lib.hid hl
  clear hsome hwf hnone
  go_enter Tryd.func11, Tryd.ntmps11
  go_wp2
  go_loopw [5, 6] (fun n j wr => ∃ (k : Nat) (x : Int), k ≤ zs.length ∧ j = .int .i64 k ∧ n = .int .i64 x ∧ Hid (sumW i (zs.take k) = x) ∧ 0 ≤ x ∧ x ≤ 200000000 ∧ Up w wr) (fun _ j _ => zs.length - (intOf j).toNat)
  case atStart => exact ⟨0, 0, Nat.zero_le _, rfl, rfl, Lib.hid rfl, by decide, by decide, Up.refl _⟩
  case round =>
    obtain ⟨k, x, hk, rfl, rfl, HX, hx0, hx1, hup⟩ := hrel
    by_cases hlt : k < zs.length
    · obtain ⟨b, o, rfl, hb, hc⟩ := HS.out (by omega)
      have hcell : wr.cell? ⟨b, o + k, none⟩ = some (.int .u8 (zs.getD k 0)) := by rw [hup.cells.1 b _ hb]; exact hc k hlt
      have hgz : zs.getD k 0 = zs[k] := by simp [List.getD, hlt]
      have hz := bounds_u8 (HW.out (zs.getD k 0) (by rw [hgz]; exact List.getElem_mem hlt))
      have hz0 := hz.1
      have hz1 := hz.2
      have HN : Hid (sumW i (zs.take (k + 1)) = x + width i (zs.getD k 0)) := Lib.hid (by
        rw [List.take_succ_eq_append_getElem hlt, sumW_append, HX.out, hgz]
        simp [sumW])
      have HB := Lib.hid (sumW_bound i (zs.take (k + 1)))
      clear hgz hz hc
      generalize zs.getD k 0 = z at *
      have hw0 := (width_bound i z).1
      have hw1 := (width_bound i z).2
      go_wp2_with (go_at_call 9; ((with_reducible refine (rwidth_calls _ _ _ hz0 hz1).mono ?_); rintro e w' ⟨rfl, hu2⟩))
      go_roundw
      case rel => exact ⟨k + 1, x + width i z, by omega, by go_num, rfl, HN, by omega, by
        have h1 := HB.out
        have h3 := HL.out
        rw [HN.out] at h1
        have h4 : (zs.take (k + 1)).length ≤ 100000 := by simp; omega
        omega, by (repeat' (first | (with_reducible exact Up.refl _) | (with_reducible assumption) | (with_reducible refine Up.alloc ?_ _) | (with_reducible refine Up.drew ?_) | (with_reducible refine Up.drewN ?_ _) | (with_reducible refine Up.setCell ?_ ?_ _) | (with_reducible refine Up.call ?_ (by with_reducible assumption)) | go_size))⟩
      case measure => simp [intOf]; omega
    · have HE : Hid (sumW i zs = x) := Lib.hid (by rw [← HX.out, List.take_of_length_le (by omega)])
      go_wp2
      go_ret
      exact ⟨by rw [HE.out]; rfl, by (repeat' (first | (with_reducible exact Up.refl _) | (with_reducible assumption) | (with_reducible refine Up.alloc ?_ _) | (with_reducible refine Up.drew ?_) | (with_reducible refine Up.drewN ?_ _) | (with_reducible refine Up.setCell ?_ ?_ _) | (with_reducible refine Up.call ?_ (by with_reducible assumption)) | go_size))⟩


theorem info5 : (Tryd.prog.info? 5).map (fun i => (i.zero, i.size, i.bytes)) = some (some (.int .u8 0), 1, 1) := by kernel_rfl

set_option maxHeartbeats 1000000 in
theorem small (i : Int) (a1 a2 : Value) (za zb : List Int) (w : World) (hT : Tab w) (ha : Ints .u8 w a1 za) (hb : Ints .u8 w a2 zb) (hla : za.length ≤ 3000) (hlb : zb.length ≤ 3000) :
    Calls Tryd.prog 5 #[.int .i64 i, a1, a2] w fun e w' => e = .returned (.bool true) ∧ Up w w' := by
  obtain ⟨i0, hi, hz0, hz1, hz2⟩ := info_parts info5
  have HA := Lib.hid ha
  have HB := Lib.hid hb
  have HT := Lib.hid hT
  have HWA := Lib.hid ha.wf
  have HWB := Lib.hid hb.wf
  obtain ⟨pa, ca, rfl, -, -, hna, hca⟩ := ha.src
  obtain ⟨pb, cb, rfl, -, -, hnb, hcb⟩ := hb.src
  have HNA := Lib.hid hna
  have HNB := Lib.hid hnb
  clear ha hb hT hna hnb hca hcb
  have d1 : decide (3000 < (za.length : Int)) = false := decide_eq_false (by omega)
  have d2 : decide (3000 < (zb.length : Int)) = false := decide_eq_false (by omega)
  have f1 : sumW i (za ++ zb) = sumW i za + sumW i zb := sumW_append i za zb
  have f2 : sumW i (zb ++ za) = sumW i za + sumW i zb := by rw [sumW_append]; omega
  obtain ⟨g1, g2⟩ := sumW_bound i za
  obtain ⟨g3, g4⟩ := sumW_bound i zb
  have g5 : sumW i za ≤ 6000000 := by omega
  have g6 : sumW i zb ≤ 6000000 := by omega
  clear g2 g4
  have hlab : Hid ((za ++ zb).length ≤ 100000) := Lib.hid (by simp; omega)
  have hlba : Hid ((zb ++ za).length ≤ 100000) := Lib.hid (by simp; omega)
  have hla2 : Hid (za.length ≤ 100000) := Lib.hid (by omega)
  have hlb2 : Hid (zb.length ≤ 100000) := Lib.hid (by omega)
  go_enter Tryd.func5, Tryd.ntmps5
  go_wp2_with (first
    | (at_builtin; refine wpList_append_any rfl _ _ 26 rfl w.heap.size 5 i0 (.int .u8 0) 1 1 Tryd.underlying26 hi hz0 hz1 hz2 rfl (by decide) (.slice (some ⟨w.heap.size, 0, none⟩) 0 0) 0 [] rfl (ownsRow_empty w w.heap.size _ (Nat.le_refl _)) pa za.length ca (za.map (Value.int .u8)) rfl (by simp) HNA.out (HA.out.news (Up.alloc (Up.refl w) _)) (ints_oneCell _ _) (by unfold maxLen; omega) (by omega) (by simp) ?_; intro v1 w1 hown1 hgr1 hnil; have HU1 := Lib.hid (show Up w w1 from grown_up (Up.alloc (Up.refl w) _) hgr1 (fun k0 hk0 => by have h4 : w.heap.size = k0 := (by injection hk0); omega)); have HB1 := Lib.hid (show ∀ k0, v1.ownBlock = some k0 → w.heap.size ≤ k0 from fun k0 hk0 => (hown1.lt k0 hk0).1); clear hnil hgr1)
    | (at_builtin; refine wpList_append_any rfl _ _ 26 rfl w.heap.size 5 i0 (.int .u8 0) 1 1 Tryd.underlying26 hi hz0 hz1 hz2 rfl (by decide) v1 (0 + za.length) _ rfl hown1 pb zb.length cb (zb.map (Value.int .u8)) rfl (by simp) HNB.out (HB.out.news HU1.out) (ints_oneCell _ _) (by unfold maxLen; omega) (by omega) HU1.out.size ?_; intro v2 w2 hown2 hgr2 hnil; have HU2 := Lib.hid (show Up w w2 from grown_up HU1.out hgr2 HB1.out); have HI2 : Hid (Ints .u8 w2 v2 (za ++ zb)) := Lib.hid (owns_ints (by rw [List.map_append]; simpa using hown2) (Ints.both HWA.out HWB.out)); have hs2 := HU2.out.size; clear hnil hgr2 hown1 hown2 HU1 HB1)
    | (at_builtin; refine wpList_append_any rfl _ _ 26 rfl w2.heap.size 5 i0 (.int .u8 0) 1 1 Tryd.underlying26 hi hz0 hz1 hz2 rfl (by decide) (.slice (some ⟨w2.heap.size, 0, none⟩) 0 0) 0 [] rfl (ownsRow_empty w2 w2.heap.size _ (Nat.le_refl _)) pb zb.length cb (zb.map (Value.int .u8)) rfl (by simp) HNB.out (HB.out.news (Up.alloc HU2.out _)) (ints_oneCell _ _) (by unfold maxLen; omega) (by omega) (by simp) ?_; intro v3 w3 hown3 hgr3 hnil; have HU3 := Lib.hid (show Up w2 w3 from grown_up (Up.alloc (Up.refl w2) _) hgr3 (fun k0 hk0 => by have h4 : w2.heap.size = k0 := (by injection hk0); omega)); have HB3 := Lib.hid (show ∀ k0, v3.ownBlock = some k0 → w2.heap.size ≤ k0 from fun k0 hk0 => (hown3.lt k0 hk0).1); clear hnil hgr3)
    | (at_builtin; refine wpList_append_any rfl _ _ 26 rfl w2.heap.size 5 i0 (.int .u8 0) 1 1 Tryd.underlying26 hi hz0 hz1 hz2 rfl (by decide) v3 (0 + zb.length) _ rfl hown3 pa za.length ca (za.map (Value.int .u8)) rfl (by simp) HNA.out (HA.out.news (Up.call HU2.out HU3.out)) (ints_oneCell _ _) (by unfold maxLen; omega) (by omega) HU3.out.size ?_; intro v4 w4 hown4 hgr4 hnil; have hup4 : Up w2 w4 := grown_up HU3.out hgr4 HB3.out; have HI4 : Hid (Ints .u8 w4 v4 (zb ++ za)) := Lib.hid (owns_ints (by rw [List.map_append]; simpa using hown4) (Ints.both HWB.out HWA.out)); have HU24 := Lib.hid (show Up w w4 from Up.call HU2.out hup4); have HI24 : Hid (Ints .u8 w4 v2 (za ++ zb)) := Lib.hid (HI2.out.up hup4); have hs4 := HU24.out.size; clear hnil hgr4 hown3 hown4 HU3 HB3 hup4 HI2 HU2)
    | (go_at_call 7; ((with_reducible refine (answers_calls _ (HT.out.up (Up.call HU24.out (by (repeat' (first | (with_reducible exact Up.refl _) | (with_reducible assumption) | (with_reducible refine Up.alloc ?_ _) | (with_reducible refine Up.drew ?_) | (with_reducible refine Up.drewN ?_ _) | (with_reducible refine Up.setCell ?_ ?_ _) | (with_reducible refine Up.call ?_ (by with_reducible assumption)) | go_size)))))).mono ?_); rintro e w' ⟨rfl, hu⟩))
    | (go_at_call 11; ((with_reducible refine (rsum_calls i v2 (za ++ zb) _ (HI24.out.up (by (repeat' (first | (with_reducible exact Up.refl _) | (with_reducible assumption) | (with_reducible refine Up.alloc ?_ _) | (with_reducible refine Up.drew ?_) | (with_reducible refine Up.drewN ?_ _) | (with_reducible refine Up.setCell ?_ ?_ _) | (with_reducible refine Up.call ?_ (by with_reducible assumption)) | go_size)))) hlab.out).mono ?_); rintro e w' ⟨rfl, hu⟩))
    | (go_at_call 10; ((with_reducible refine (sum_calls i v2 (za ++ zb) _ (HI24.out.up (by (repeat' (first | (with_reducible exact Up.refl _) | (with_reducible assumption) | (with_reducible refine Up.alloc ?_ _) | (with_reducible refine Up.drew ?_) | (with_reducible refine Up.drewN ?_ _) | (with_reducible refine Up.setCell ?_ ?_ _) | (with_reducible refine Up.call ?_ (by with_reducible assumption)) | go_size)))) hlab.out).mono ?_); rintro e w' ⟨rfl, hu⟩))
    | (go_at_call 10; ((with_reducible refine (sum_calls i v4 (zb ++ za) _ (HI4.out.up (by (repeat' (first | (with_reducible exact Up.refl _) | (with_reducible assumption) | (with_reducible refine Up.alloc ?_ _) | (with_reducible refine Up.drew ?_) | (with_reducible refine Up.drewN ?_ _) | (with_reducible refine Up.setCell ?_ ?_ _) | (with_reducible refine Up.call ?_ (by with_reducible assumption)) | go_size)))) hlba.out).mono ?_); rintro e w' ⟨rfl, hu⟩))
    | (go_at_call 10; ((with_reducible refine (sum_calls i (.slice pa za.length ca) za _ (HA.out.up (Up.call HU24.out (by (repeat' (first | (with_reducible exact Up.refl _) | (with_reducible assumption) | (with_reducible refine Up.alloc ?_ _) | (with_reducible refine Up.drew ?_) | (with_reducible refine Up.drewN ?_ _) | (with_reducible refine Up.setCell ?_ ?_ _) | (with_reducible refine Up.call ?_ (by with_reducible assumption)) | go_size))))) hla2.out).mono ?_); rintro e w' ⟨rfl, hu⟩))
    | (go_at_call 10; ((with_reducible refine (sum_calls i (.slice pb zb.length cb) zb _ (HB.out.up (Up.call HU24.out (by (repeat' (first | (with_reducible exact Up.refl _) | (with_reducible assumption) | (with_reducible refine Up.alloc ?_ _) | (with_reducible refine Up.drew ?_) | (with_reducible refine Up.drewN ?_ _) | (with_reducible refine Up.setCell ?_ ?_ _) | (with_reducible refine Up.call ?_ (by with_reducible assumption)) | go_size))))) hlb2.out).mono ?_); rintro e w' ⟨rfl, hu⟩)))
  go_ret
  exact ⟨rfl, Up.call HU24.out (by (repeat' (first | (with_reducible exact Up.refl _) | (with_reducible assumption) | (with_reducible refine Up.alloc ?_ _) | (with_reducible refine Up.drew ?_) | (with_reducible refine Up.drewN ?_ _) | (with_reducible refine Up.setCell ?_ ?_ _) | (with_reducible refine Up.call ?_ (by with_reducible assumption)) | go_size)))⟩

theorem walk {w : World} (i : Int) (a1 : Option Addr) (len1 cap1 : Nat) (z1 : List Int) (a2 : Option Addr) (len2 cap2 : Nat) (z2 : List Int) (w0 : (Lit.int .i64 i).wf = true) (w1 : IsRow .u8 w a1 len1 cap1 z1) (w2 : IsRow .u8 w a2 len2 cap2 z2) (hT : Tab w) :
    Calls Tryd.prog 5 #[.int .i64 i, .slice a1 len1 cap1, .slice a2 len2 cap2] w fun e w' => e = .returned (.bool true) ∧ Up w w' := by
  have l1 := w1.le
  have l2 := w2.le
  unfold maxLen at l1 l2
  by_cases h : len1 ≤ 3000 ∧ len2 ≤ 3000
  · refine small i _ _ (z1.take len1) (z2.take len2) w hT w1.ints w2.ints ?_ ?_
    · simp; omega
    · simp; omega
  · have HT := Lib.hid hT
    clear hT w0 w1 w2
    have d : decide (3000 < (len1 : Int)) = true ∨ (decide (3000 < (len1 : Int)) = false ∧ decide (3000 < (len2 : Int)) = true) := by
      by_cases h1 : len1 ≤ 3000
      · exact .inr ⟨decide_eq_false (by omega), decide_eq_true (by omega)⟩
      · exact .inl (decide_eq_true (by omega))
    rcases d with d | ⟨d, d2⟩
    all_goals
      have h1 : len1 ≤ 9223372036854775807 := by omega
      have h2 : len2 ≤ 9223372036854775807 := by omega
      clear l1 l2 h
      go_enter Tryd.func5, Tryd.ntmps5
      go_wp2_with (go_at_call 7; ((with_reducible refine (answers_calls _ HT.out).mono ?_); rintro e w' ⟨rfl, hu⟩))
      go_ret
      exact ⟨rfl, by (repeat' (first | (with_reducible exact Up.refl _) | (with_reducible assumption) | (with_reducible refine Up.alloc ?_ _) | (with_reducible refine Up.drew ?_) | (with_reducible refine Up.drewN ?_ _) | (with_reducible refine Up.setCell ?_ ?_ _) | (with_reducible refine Up.call ?_ (by with_reducible assumption)) | go_size))⟩

theorem own : ownKnob Tryd.prog.godebug = none := by kernel_rfl
theorem laidOut : laidOutB Tryd.prog = true := by kernel_rfl
/-- what the walk gives, for every argument and every world that holds the listed variables -/
theorem contract (H : Type) (enc : TypeId × Value → H) (W : World) (base : Nat) (args : Array Value) (ds gs : List (DataW H)) (before : List MemPlace)
    (hval : ∀ (j : Nat) t v, Tryd.f5.params[j]? = some t → args[j]? = some v → Value.okWide Tryd.prog W .any base t v)
    (hW : DataW.Whole enc Tryd.prog Tryd.f5.params.toList Rows.fontSumsSpec.vars false W args.toList ds gs before) (hL : laidMetH Tryd.prog Rows.fontSumsRow.laid W) :
    Calls Tryd.prog 5 args W fun e W' => ∃ v, e = .returned v ∧ Rows.fontSumsSpec.post enc Tryd.prog Tryd.f5 false true false false W args v W' := by
  have hW' := hW
  obtain ⟨p, q, hA0, hV, rfl, hfz, hnd⟩ := hW
  have hA : DataW.TrodAll enc Tryd.prog W 0 (fun _ => true) true Tryd.f5.params.toList args.toList ds p := hA0
  rw [Tryd.params5] at hA hval
  obtain ⟨v0, vs0, d0, ds0, p0, q0, hargs, rfl, rfl, h0, r0⟩ := trodAll_cons hA
  obtain ⟨v1, vs1, d1, ds1, p1, q1, rfl, rfl, rfl, h1, r1⟩ := trodAll_cons r0
  obtain ⟨v2, vs2, d2, ds2, p2, q2, rfl, rfl, rfl, h2, r2⟩ := trodAll_cons r1
  obtain ⟨rfl, rfl, rfl⟩ := trodAll_nil r2
  obtain rfl : args = #[v0, v1, v2] := by cases args; simp_all
  obtain ⟨rfl, rfl⟩ := trodVars_none hV
  have k0 := h0
  have lt0 : ∀ x ∈ p0, x.block < W.heap.size := by obtain ⟨m, hm⟩ := k0; exact DataW.trod_lt m _ _ _ hm
  have k1 := h1
  have lt1 : ∀ x ∈ p1, x.block < W.heap.size := by obtain ⟨m, hm⟩ := k1; exact DataW.trod_lt m _ _ _ hm
  have k2 := h2
  have lt2 : ∀ x ∈ p2, x.block < W.heap.size := by obtain ⟨m, hm⟩ := k2; exact DataW.trod_lt m _ _ _ hm
  obtain ⟨a0, rfl, rfl, rfl, w0⟩ := open_int Tryd.underlying3 (hval 0 3 v0 rfl rfl) h0
  obtain ⟨a1, len1, cap1, rfl⟩ := okWide_slice Tryd.underlying26 (hval 1 26 v1 rfl rfl)
  obtain ⟨z1, w1⟩ : ∃ zs, IsRow .u8 W a1 len1 cap1 zs := isRow_of Tryd.underlying26 Tryd.underlying5 (by kernel_rfl) h1
  obtain ⟨a2, len2, cap2, rfl⟩ := okWide_slice Tryd.underlying26 (hval 2 26 v2 rfl rfl)
  obtain ⟨z2, w2⟩ : ∃ zs, IsRow .u8 W a2 len2 cap2 zs := isRow_of Tryd.underlying26 Tryd.underlying5 (by kernel_rfl) h2
  clear hA0 hval
  refine (walk (w := W) a0 a1 len1 cap1 z1 a2 len2 cap2 z2 w0 w1 w2 (table hL)).mono fun e W' ⟨he, bel⟩ => ?_
  subst he
  exact ⟨_, rfl, _, _, _, [], _, [], hW', trodAll_mk1 (shut_bool Tryd.underlying4 _), (trodAll_cons_mk (Below.trod laidOut (by kernel_rfl) (of_decide_eq_true (by kernel_rfl)) k0 bel lt0) (trodAll_cons_mk (Below.trod laidOut (by kernel_rfl) (of_decide_eq_true (by kernel_rfl)) k1 bel lt1) (trodAll_cons_mk (Below.trod laidOut (by kernel_rfl) (of_decide_eq_true (by kernel_rfl)) k2 bel lt2) trodAll_mk0))), rfl, bel.frame _, fun h => by cases h⟩
noncomputable def laidWorld (os : Os) : World :=
  { World.holding Tryd.prog os ⟨#[], #[], []⟩ with heap := ((World.holding Tryd.prog os ⟨#[], #[], []⟩).heap).modify 0 fun
      | .cells _ t frozen => .cells #[.string ⟨#[67, 111, 117, 114, 105, 101, 114]⟩, .string ⟨#[67, 111, 117, 114, 105, 101, 114, 45, 66, 111, 108, 100]⟩, .string ⟨#[67, 111, 117, 114, 105, 101, 114, 45, 79, 98, 108, 105, 113, 117, 101]⟩, .string ⟨#[67, 111, 117, 114, 105, 101, 114, 45, 66, 111, 108, 100, 79, 98, 108, 105, 113, 117, 101]⟩, .string ⟨#[72, 101, 108, 118, 101, 116, 105, 99, 97]⟩, .string ⟨#[72, 101, 108, 118, 101, 116, 105, 99, 97, 45, 66, 111, 108, 100]⟩, .string ⟨#[72, 101, 108, 118, 101, 116, 105, 99, 97, 45, 79, 98, 108, 105, 113, 117, 101]⟩, .string ⟨#[72, 101, 108, 118, 101, 116, 105, 99, 97, 45, 66, 111, 108, 100, 79, 98, 108, 105, 113, 117, 101]⟩, .string ⟨#[84, 105, 109, 101, 115, 45, 82, 111, 109, 97, 110]⟩, .string ⟨#[84, 105, 109, 101, 115, 45, 66, 111, 108, 100]⟩, .string ⟨#[84, 105, 109, 101, 115, 45, 73, 116, 97, 108, 105, 99]⟩, .string ⟨#[84, 105, 109, 101, 115, 45, 66, 111, 108, 100, 73, 116, 97, 108, 105, 99]⟩, .string ⟨#[83, 121, 109, 98, 111, 108]⟩, .string ⟨#[90, 97, 112, 102, 68, 105, 110, 103, 98, 97, 116, 115]⟩] t frozen
      | o => o }
theorem laid_met (os : Os) : laidMet Tryd.prog Rows.fontSumsRow.laid ((laidWorld os).forCall (fun _ _ => 0) ⟨#[], #[.int .i64 0, .slice none 0 0, .slice none 0 0], []⟩).memory :=
  laidMet_of_run' 8 (by kernel_rfl) (by kernel_rfl)
theorem reads (os : Os) {H : Type} (enc : TypeId × Value → H) : ∃ places, DataW.whole enc Tryd.prog ((laidWorld os).forCall (fun _ _ => 0) ⟨#[], #[.int .i64 0, .slice none 0 0, .slice none 0 0], []⟩).memory Tryd.f5.params.toList Rows.fontSumsSpec.vars false #[(.int .i64 0 : Value), (.slice none 0 0 : Value), (.slice none 0 0 : Value)].toList 8 = some ([.lit (.int .i64 0), .nil, .nil], [], places) :=
  ⟨[], by kernel_rfl⟩
set_option maxRecDepth 100000 in
theorem lifted (os : Os) (started : os.Started) (H : Type) (enc : TypeId × Value → H) (F : Stop.Interp) :
    ReturnsInHanded {} Tryd.checked os 5 .any ((OpenSpec.ofChange Rows.fontSumsSpec).preRow enc Tryd.prog Tryd.f5 Rows.fontSumsRow.domain false Rows.fontSumsRow.laid) (((OpenSpec.ofChange Rows.fontSumsSpec).at F).post enc Tryd.prog Tryd.f5 false true false false) := by
  obtain ⟨places, hx⟩ := reads os enc
  refine returnsInHanded_of_row (C := Tryd.checked) (s := OpenSpec.ofChange Rows.fontSumsSpec) own started (by kernel_rfl) Tryd.func5
    (witness_row_at (enc := enc) (C := Tryd.checked) false (laidWorld os) #[.int .i64 0, .slice none 0 0, .slice none 0 0] rfl (by kernel_rfl) (by kernel_rfl) (by kernel_rfl)
      (OpenSpec.preRow_of_cond 8 hx (by kernel_rfl) (fun k hk => by cases hk) (by kernel_rfl) (laid_met os))) ?_
  intro W base args ds gs before hval hW _ _ _ hL _ _
  exact contract H enc W base args ds gs before hval hW hL
theorem said : Rows.FontSumsSaid :=
  OpenClaim.holds_of_cond 5 Tryd.f5 rfl rfl rfl rfl rfl rfl rfl ⟨rfl, rfl, rfl, rfl, rfl⟩ rfl rfl rfl rfl rfl (by kernel_rfl) Tryd.func5 (by kernel_rfl)
    (of_decide_eq_true (by kernel_rfl)) (by unfold Func.isWrapper; first | (rw [if_pos (by decide +kernel)]; kernel_rfl) | (rw [if_neg (by decide +kernel)]; exact ⟨rfl, rfl⟩))
    (fun os started H enc _ F => by rw [OpenClaim.pre_eq_preRow]; exact lifted os started H enc F)
theorem plain (f : FuncId) (fn : Func) (hf : Tryd.pinned.checked.prog.funcNamed "mezzotint/mezzotintlaw12.FontSums" = some f) (hfn : Tryd.pinned.checked.prog.funcs[f]? = some fn) :
    false = Tryd.pinned.checked.prog.looks [] ∧ ∀ (j : Nat) t, fn.params[j]? = some t → Tryd.pinned.checked.prog.wantsStandIn t = false := by
  obtain rfl : f = 5 := Option.some.inj ((show Tryd.prog.funcNamed "mezzotint/mezzotintlaw12.FontSums" = some 5 by kernel_rfl).symm.trans hf) |>.symm
  obtain rfl : fn = Tryd.f5 := (Option.some.inj (Tryd.func5.symm.trans hfn)).symm
  refine ⟨by kernel_rfl, fun j t ht => ?_⟩
  rw [Tryd.params5] at ht
  have hm : t ∈ [3, 26, 26] := by have := Array.mem_of_getElem? ht; simpa using this
  simp only [List.mem_cons, List.not_mem_nil, or_false] at hm
  rcases hm with rfl | rfl | rfl
  · exact (show Tryd.prog.wantsStandIn 3 = false by kernel_rfl)
  · exact (show Tryd.prog.wantsStandIn 26 = false by kernel_rfl)
  · exact (show Tryd.prog.wantsStandIn 26 = false by kernel_rfl)
/-- THE CARD -/
theorem card : Rows.FontSumsCardSaid :=
  Claim7.holds_tied_plain_at .later [] _ _ _ _ said (fun _ h => by cases h) (by kernel_rfl) (fun _ h => by cases h) fontSums_row_tie rfl ⟨rfl, rfl⟩ (by kernel_rfl) rfl plain (by kernel_rfl)
#print axioms card
end Go.Proofs.YtcldhlppnedcjaaDoor.fontSums
