/- What the functions of package font return, and the reference's, each over all numbers and letters. No condition. -/
import Derived.Test.YtjdbefpfjhdmoaaDoorRows
import Derived.Test.YtjdbefpfjhdmoaaDoorBase
import Derived.Test.YtjdbefpfjhdmoaaDoorFontM
import Derived.Test.YtjdbefpfjhdmoaaDoorStr
import Derived.BigQuiet
import Derived.Deep.QuietTactic
import Derived.Handy
namespace Go.Proofs.YtjdbefpfjhdmoaaDoor.Font
open Go.ChangeShapes Go.WideShapes Go.ChangeAt Go.RowKit
open Go.Proofs.YtjdbefpfjhdmoaaDoor.FontM

set_option maxHeartbeats 400000 in
theorem table_calls (i : Int) (w : World) :
    Calls Tryd.prog 94 #[.int .i64 i] w fun e w' => e = .returned (.string ⟨(four (tab i)).toArray⟩) ∧ w = w' := by
  by_cases h4 : i = 4
  · subst h4
    go_enter Tryd.func94, Tryd.ntmps94
    go_wp2
    go_ret
    exact ⟨retv (congrArg (fun l : List UInt8 => Value.string ⟨l.toArray⟩) (by decide +kernel)), rfl⟩
  have b4 : (i == 4) = false := by simpa using h4
  by_cases h6 : i = 6
  · subst h6
    clear h4 b4
    go_enter Tryd.func94, Tryd.ntmps94
    go_wp2
    go_ret
    exact ⟨retv (congrArg (fun l : List UInt8 => Value.string ⟨l.toArray⟩) (by decide +kernel)), rfl⟩
  have b6 : (i == 6) = false := by simpa using h6
  by_cases h5 : i = 5
  · subst h5
    clear h4 b4 h6 b6
    go_enter Tryd.func94, Tryd.ntmps94
    go_wp2
    go_ret
    exact ⟨retv (congrArg (fun l : List UInt8 => Value.string ⟨l.toArray⟩) (by decide +kernel)), rfl⟩
  have b5 : (i == 5) = false := by simpa using h5
  by_cases h7 : i = 7
  · subst h7
    clear h4 b4 h6 b6 h5 b5
    go_enter Tryd.func94, Tryd.ntmps94
    go_wp2
    go_ret
    exact ⟨retv (congrArg (fun l : List UInt8 => Value.string ⟨l.toArray⟩) (by decide +kernel)), rfl⟩
  have b7 : (i == 7) = false := by simpa using h7
  by_cases h8 : i = 8
  · subst h8
    clear h4 b4 h6 b6 h5 b5 h7 b7
    go_enter Tryd.func94, Tryd.ntmps94
    go_wp2
    go_ret
    exact ⟨retv (congrArg (fun l : List UInt8 => Value.string ⟨l.toArray⟩) (by decide +kernel)), rfl⟩
  have b8 : (i == 8) = false := by simpa using h8
  by_cases h9 : i = 9
  · subst h9
    clear h4 b4 h6 b6 h5 b5 h7 b7 h8 b8
    go_enter Tryd.func94, Tryd.ntmps94
    go_wp2
    go_ret
    exact ⟨retv (congrArg (fun l : List UInt8 => Value.string ⟨l.toArray⟩) (by decide +kernel)), rfl⟩
  have b9 : (i == 9) = false := by simpa using h9
  by_cases h10 : i = 10
  · subst h10
    clear h4 b4 h6 b6 h5 b5 h7 b7 h8 b8 h9 b9
    go_enter Tryd.func94, Tryd.ntmps94
    go_wp2
    go_ret
    exact ⟨retv (congrArg (fun l : List UInt8 => Value.string ⟨l.toArray⟩) (by decide +kernel)), rfl⟩
  have b10 : (i == 10) = false := by simpa using h10
  by_cases h11 : i = 11
  · subst h11
    clear h4 b4 h6 b6 h5 b5 h7 b7 h8 b8 h9 b9 h10 b10
    go_enter Tryd.func94, Tryd.ntmps94
    go_wp2
    go_ret
    exact ⟨retv (congrArg (fun l : List UInt8 => Value.string ⟨l.toArray⟩) (by decide +kernel)), rfl⟩
  have b11 : (i == 11) = false := by simpa using h11
  have ht : tab i = [] := by simp [tab, h4, h6, h5, h7, h8, h9, h10, h11]
  rw [ht]
  clear ht h4 h6 h5 h7 h8 h9 h10 h11
  go_enter Tryd.func94, Tryd.ntmps94
  go_wp2
  go_ret
  exact ⟨rfl, rfl⟩

set_option maxHeartbeats 400000 in
theorem rtable_calls (i : Int) (w : World) :
    Calls Tryd.prog 78 #[.int .i64 i] w fun e w' => e = .returned (.string ⟨(blanks (tab i)).toArray⟩) ∧ w = w' := by
  by_cases h4 : i = 4
  · subst h4
    go_enter Tryd.func78, Tryd.ntmps78
    go_wp2
    go_ret
    exact ⟨retv (congrArg (fun l : List UInt8 => Value.string ⟨l.toArray⟩) (by decide +kernel)), rfl⟩
  have b4 : (i == 4) = false := by simpa using h4
  by_cases h6 : i = 6
  · subst h6
    clear h4 b4
    go_enter Tryd.func78, Tryd.ntmps78
    go_wp2
    go_ret
    exact ⟨retv (congrArg (fun l : List UInt8 => Value.string ⟨l.toArray⟩) (by decide +kernel)), rfl⟩
  have b6 : (i == 6) = false := by simpa using h6
  by_cases h5 : i = 5
  · subst h5
    clear h4 b4 h6 b6
    go_enter Tryd.func78, Tryd.ntmps78
    go_wp2
    go_ret
    exact ⟨retv (congrArg (fun l : List UInt8 => Value.string ⟨l.toArray⟩) (by decide +kernel)), rfl⟩
  have b5 : (i == 5) = false := by simpa using h5
  by_cases h7 : i = 7
  · subst h7
    clear h4 b4 h6 b6 h5 b5
    go_enter Tryd.func78, Tryd.ntmps78
    go_wp2
    go_ret
    exact ⟨retv (congrArg (fun l : List UInt8 => Value.string ⟨l.toArray⟩) (by decide +kernel)), rfl⟩
  have b7 : (i == 7) = false := by simpa using h7
  by_cases h8 : i = 8
  · subst h8
    clear h4 b4 h6 b6 h5 b5 h7 b7
    go_enter Tryd.func78, Tryd.ntmps78
    go_wp2
    go_ret
    exact ⟨retv (congrArg (fun l : List UInt8 => Value.string ⟨l.toArray⟩) (by decide +kernel)), rfl⟩
  have b8 : (i == 8) = false := by simpa using h8
  by_cases h9 : i = 9
  · subst h9
    clear h4 b4 h6 b6 h5 b5 h7 b7 h8 b8
    go_enter Tryd.func78, Tryd.ntmps78
    go_wp2
    go_ret
    exact ⟨retv (congrArg (fun l : List UInt8 => Value.string ⟨l.toArray⟩) (by decide +kernel)), rfl⟩
  have b9 : (i == 9) = false := by simpa using h9
  by_cases h10 : i = 10
  · subst h10
    clear h4 b4 h6 b6 h5 b5 h7 b7 h8 b8 h9 b9
    go_enter Tryd.func78, Tryd.ntmps78
    go_wp2
    go_ret
    exact ⟨retv (congrArg (fun l : List UInt8 => Value.string ⟨l.toArray⟩) (by decide +kernel)), rfl⟩
  have b10 : (i == 10) = false := by simpa using h10
  by_cases h11 : i = 11
  · subst h11
    clear h4 b4 h6 b6 h5 b5 h7 b7 h8 b8 h9 b9 h10 b10
    go_enter Tryd.func78, Tryd.ntmps78
    go_wp2
    go_ret
    exact ⟨retv (congrArg (fun l : List UInt8 => Value.string ⟨l.toArray⟩) (by decide +kernel)), rfl⟩
  have b11 : (i == 11) = false := by simpa using h11
  have ht : tab i = [] := by simp [tab, h4, h6, h5, h7, h8, h9, h10, h11]
  rw [ht]
  clear ht h4 h6 h5 h7 h8 h9 h10 h11
  go_enter Tryd.func78, Tryd.ntmps78
  go_wp2
  go_ret
  exact ⟨rfl, rfl⟩


theorem inside_no {i c : Int} (h : inside i c = false) : decide (i < 0) = true ∨ (decide (i < 0) = false ∧ decide (14 ≤ i) = true ∧ decide (13 < i) = true) ∨ (decide (i < 0) = false ∧ decide (14 ≤ i) = false ∧ decide (13 < i) = false ∧ decide (c < 32) = true) ∨ (decide (i < 0) = false ∧ decide (14 ≤ i) = false ∧ decide (13 < i) = false ∧ decide (c < 32) = false ∧ decide (126 < c) = true) := by
  simp only [inside, Bool.and_eq_false_iff, decide_eq_false_iff_not, decide_eq_true_eq] at *
  omega
theorem inside_yes {i c : Int} (h : inside i c = true) : decide (i < 0) = false ∧ decide (14 ≤ i) = false ∧ decide (13 < i) = false ∧ decide (c < 32) = false ∧ decide (126 < c) = false ∧ 0 ≤ i ∧ i ≤ 13 ∧ 32 ≤ c ∧ c ≤ 126 := by
  simp only [inside, Bool.and_eq_true, decide_eq_false_iff_not, decide_eq_true_eq] at *
  omega

set_option maxRecDepth 4000 in
set_option maxHeartbeats 400000 in
theorem width_calls (i c : Int) (w : World) (hc0 : 0 ≤ c) (hc1 : c ≤ 255) :
    Calls Tryd.prog 75 #[.int .i64 i, .int .u8 c] w fun e w' => e = .returned (.int .i64 (width i c)) ∧ Up w w' := by
  by_cases hin : inside i c = true
  · obtain ⟨d1, d2, d3, d4, d5, k1, k2, k3, k4⟩ := inside_yes hin
    rcases tab_cases i with ht | ⟨ht, hok, hlen⟩
    · have HF : Hid (four (tab i) = []) := Lib.hid (by rw [ht]; rfl)
      by_cases h13 : i = 13
      · subst h13
        have H := Lib.hid (show width 13 c = 788 by unfold width; rw [if_pos hin, if_pos ht]; rfl)
        go_enter Tryd.func75, Tryd.ntmps75
        go_wp2_with (go_at_call 94; ((with_reducible refine (table_calls _ _).mono ?_); rw [HF.out]; rintro e w' ⟨rfl, rfl⟩))
        go_ret
        exact ⟨by rw [H.out]; rfl, by (repeat' (first | (with_reducible exact Up.refl _) | (with_reducible assumption) | (with_reducible refine Up.alloc ?_ _) | (with_reducible refine Up.drew ?_) | (with_reducible refine Up.drewN ?_ _) | (with_reducible refine Up.setCell ?_ ?_ _) | (with_reducible refine Up.call ?_ (by with_reducible assumption)) | go_size))⟩
      · have b13 : (i == 13) = false := by simpa using h13
        have H := Lib.hid (show width i c = 600 by unfold width; rw [if_pos hin, if_pos ht, if_neg h13])
        clear h13
        go_enter Tryd.func75, Tryd.ntmps75
        go_wp2_with (go_at_call 94; ((with_reducible refine (table_calls _ _).mono ?_); rw [HF.out]; rintro e w' ⟨rfl, rfl⟩))
        go_ret
        exact ⟨by rw [H.out]; rfl, by (repeat' (first | (with_reducible exact Up.refl _) | (with_reducible assumption) | (with_reducible refine Up.alloc ?_ _) | (with_reducible refine Up.drew ?_) | (with_reducible refine Up.drewN ?_ _) | (with_reducible refine Up.setCell ?_ ?_ _) | (with_reducible refine Up.call ?_ (by with_reducible assumption)) | go_size))⟩
    · have H := Lib.hid (show width i c = val 0 (((four (tab i)).drop (4 * (c - 32).toNat)).take 4) by unfold width; rw [if_pos hin, if_neg ht])
      have hem : (four (tab i)).isEmpty = false := by
        cases he : four (tab i) with
        | nil => rw [he] at hlen; cases hlen
        | cons _ _ => rfl
      clear hin ht hok
      obtain ⟨t, ht⟩ : ∃ t, four (tab i) = t := ⟨_, rfl⟩
      rw [ht] at hlen hem H
      have HT := Lib.hid ht
      clear ht
      have hsl := run_slice_list w 9 t .i64 .i64 (4 * (c - 32)) (4 * (c - 32) + 4) Tryd.underlying9 (by omega) (by omega) (by omega)
      obtain ⟨u, hu⟩ : ∃ u, (t.drop (4 * (c - 32)).toNat).take ((4 * (c - 32) + 4).toNat - (4 * (c - 32)).toNat) = u := ⟨_, rfl⟩
      have e4 : (4 * (c - 32) + 4).toNat - (4 * (c - 32)).toNat = 4 := by omega
      have e5 : (4 * (c - 32)).toNat = 4 * (c - 32).toNat := by omega
      have hul : u.length = 4 := by rw [← hu, e4, e5, List.length_take, List.length_drop]; omega
      have HV : Hid (width i c = val 0 u) := Lib.hid (by rw [H.out, ← hu, e4, e5])
      rw [hu] at hsl
      obtain ⟨cap, w1, hcv, hup, hsz, hcell⟩ := bytes_of_list w 9 27 5 u Tryd.underlying9 Tryd.underlying27 Tryd.underlying5
      rw [hul] at hcv
      have HC := Lib.hid hcell
      have HU := Lib.hid hul
      clear hu e4 e5 H hlen hul hcell
      go_enter Tryd.func75, Tryd.ntmps75
      go_wp2_with (go_at_call 94; ((with_reducible refine (table_calls _ _).mono ?_); rw [HT.out]; rintro e w' ⟨rfl, rfl⟩))
      go_loop [6, 41] (fun n i => ∃ (k : Nat) (x : Int), k ≤ 4 ∧ i = .int .i64 k ∧ n = .int .i64 x ∧ Hid (val 0 (u.take k) = x) ∧ 0 ≤ x ∧ (k = 0 → x ≤ 0) ∧ (k = 1 → x ≤ 255) ∧ (k = 2 → x ≤ 2805) ∧ (k = 3 → x ≤ 28305) ∧ (k = 4 → x ≤ 283305)) (fun _ i => 4 - (intOf i).toNat)
      case atStart => exact ⟨0, 0, by decide, rfl, rfl, Lib.hid rfl, by decide, by omega, by omega, by omega, by omega, by omega⟩
      case round =>
        obtain ⟨k, x, hk, rfl, rfl, HX, hx0, r0, r1, r2, r3, r4⟩ := hrel
        by_cases hlt : k < 4
        · have hcell := HC.out k (by rw [HU.out]; exact hlt)
          have hb : (u.getD k 0).toNat < 256 := UInt8.toNat_lt _
          have HN : Hid (val 0 (u.take (k + 1)) = 10 * x + ((((u.getD k 0).toNat : Nat) : Int) - 48) % 256) := Lib.hid (by
            have hlt' : k < u.length := by rw [HU.out]; exact hlt
            have e : u[k] = u.getD k 0 := by simp [List.getD, hlt']
            rw [List.take_succ_eq_append_getElem hlt', val_snoc, HX.out, e]
            rfl)
          have hx1 : x ≤ 28305 := by omega
          generalize (u.getD k 0).toNat = d at *
          have HR := Lib.hid (And.intro r0 (And.intro r1 (And.intro r2 r3)))
          clear r0 r1 r2 r3 r4
          have hd48 : IntKind.u8.wrap ((d : Int) - 48) = ((d : Int) - 48) % 256 := by rw [IntKind.wrap_u8]
          have hm0 : 0 ≤ ((d : Int) - 48) % 256 := by omega
          have hm1 : ((d : Int) - 48) % 256 ≤ 255 := by omega
          generalize ((d : Int) - 48) % 256 = m at *
          go_wp2
          go_round
          case rel => exact ⟨k + 1, 10 * x + m, by omega, by go_num, rfl, HN, by omega, by omega, by have := HR.out; omega, by have := HR.out; omega, by have := HR.out; omega, by have := HR.out; omega⟩
          case measure => simp [intOf]; omega
        · have HE : Hid (width i c = x) := Lib.hid (by rw [HV.out, ← HX.out, List.take_of_length_le (by rw [HU.out]; omega)])
          go_wp2
          go_ret
          exact ⟨by rw [HE.out]; rfl, by (repeat' (first | (with_reducible exact Up.refl _) | (with_reducible assumption) | (with_reducible refine Up.alloc ?_ _) | (with_reducible refine Up.drew ?_) | (with_reducible refine Up.drewN ?_ _) | (with_reducible refine Up.setCell ?_ ?_ _) | (with_reducible refine Up.call ?_ (by with_reducible assumption)) | go_size))⟩
  · have hin : inside i c = false := by simpa using hin
    have H := Lib.hid (show width i c = 0 by unfold width; rw [hin]; rfl)
    rcases inside_no hin with d1 | ⟨d1, d2, d3⟩ | ⟨d1, d2, d3, d4⟩ | ⟨d1, d2, d3, d4, d5⟩
    all_goals
      clear hin
      go_enter Tryd.func75, Tryd.ntmps75
      go_wp2
      go_ret
      exact ⟨by rw [H.out]; rfl, by (repeat' (first | (with_reducible exact Up.refl _) | (with_reducible assumption) | (with_reducible refine Up.alloc ?_ _) | (with_reducible refine Up.drew ?_) | (with_reducible refine Up.drewN ?_ _) | (with_reducible refine Up.setCell ?_ ?_ _) | (with_reducible refine Up.call ?_ (by with_reducible assumption)) | go_size))⟩

set_option maxHeartbeats 400000 in
theorem rwidth_calls (i c : Int) (w : World) (hc0 : 0 ≤ c) (hc1 : c ≤ 255) :
    Calls Tryd.prog 56 #[.int .i64 i, .int .u8 c] w fun e w' => e = .returned (.int .i64 (width i c)) ∧ Up w w' := by
  rw [width_eq]
  by_cases hin : inside i c = true
  · obtain ⟨d1, d2, d3, d4, d5, k1, k2, k3, k4⟩ := inside_yes hin
    rcases tab_scan i with ht | ⟨ht, hok, hem, hlen⟩
    · have HF : Hid (blanks (tab i) = []) := Lib.hid (by rw [ht]; rfl)
      by_cases h13 : i = 13
      · subst h13
        have H := Lib.hid (show widthR 13 c = 788 by unfold widthR; rw [if_pos hin, if_pos ht]; rfl)
        go_enter Tryd.func56, Tryd.ntmps56
        go_wp2_with (go_at_call 78; ((with_reducible refine (rtable_calls _ _).mono ?_); rw [HF.out]; rintro e w' ⟨rfl, rfl⟩))
        go_ret
        exact ⟨by rw [H.out]; rfl, by (repeat' (first | (with_reducible exact Up.refl _) | (with_reducible assumption) | (with_reducible refine Up.alloc ?_ _) | (with_reducible refine Up.drew ?_) | (with_reducible refine Up.drewN ?_ _) | (with_reducible refine Up.setCell ?_ ?_ _) | (with_reducible refine Up.call ?_ (by with_reducible assumption)) | go_size))⟩
      · have b13 : (i == 13) = false := by simpa using h13
        have H := Lib.hid (show widthR i c = 600 by unfold widthR; rw [if_pos hin, if_pos ht, if_neg h13])
        clear h13
        go_enter Tryd.func56, Tryd.ntmps56
        go_wp2_with (go_at_call 78; ((with_reducible refine (rtable_calls _ _).mono ?_); rw [HF.out]; rintro e w' ⟨rfl, rfl⟩))
        go_ret
        exact ⟨by rw [H.out]; rfl, by (repeat' (first | (with_reducible exact Up.refl _) | (with_reducible assumption) | (with_reducible refine Up.alloc ?_ _) | (with_reducible refine Up.drew ?_) | (with_reducible refine Up.drewN ?_ _) | (with_reducible refine Up.setCell ?_ ?_ _) | (with_reducible refine Up.call ?_ (by with_reducible assumption)) | go_size))⟩
    · have H := Lib.hid (show widthR i c = scan (blanks (tab i)) (c - 32) 0 by unfold widthR; rw [if_pos hin, if_neg ht])
      obtain ⟨t, ht2⟩ : ∃ t, blanks (tab i) = t := ⟨_, rfl⟩
      rw [ht2] at hlen hem hok H
      have HT := Lib.hid ht2
      have HOK := Lib.hid hok
      clear hin ht ht2 hok
      go_enter Tryd.func56, Tryd.ntmps56
      go_wp2_with (go_at_call 78; ((with_reducible refine (rtable_calls _ _).mono ?_); rw [HT.out]; rintro e w' ⟨rfl, rfl⟩))
      go_loop [6, 7, 8] (fun k n j => ∃ (p : Nat) (q x : Int), p ≤ t.length ∧ j = .int .i64 p ∧ k = .int .i64 q ∧ n = .int .i64 x ∧ Hid (scan (t.drop p) q x = widthR i c) ∧ Hid (okScan (t.drop p) x = true) ∧ 0 ≤ q ∧ q ≤ 100) (fun _ _ j => t.length - (intOf j).toNat)
      case atStart => exact ⟨0, c - 32, 0, Nat.zero_le _, rfl, rfl, rfl, Lib.hid (by rw [H.out]; rfl), HOK, by omega, by omega⟩
      case round =>
        obtain ⟨p, q, x, hp, rfl, rfl, rfl, HS, HK, hq0, hq1⟩ := hrel
        obtain ⟨hx0, hx1⟩ := okScan_bound HK.out
        by_cases hlt : p < t.length
        · have hix := run_index_list (P := Tryd.prog) w 9 t .i64 p Tryd.underlying9 hlt
          have hb : (t.getD p 0).toNat < 256 := UInt8.toNat_lt _
          have hdr : t.drop p = t.getD p 0 :: t.drop (p + 1) := by
            rw [List.drop_eq_getElem_cons hlt]; simp [List.getD, hlt]
          have HS2 := HS.out
          have HK2 := HK.out
          rw [hdr] at HS2 HK2
          have hlt2 : decide (p < t.length) = true := decide_eq_true hlt
          clear hdr HS HK
          by_cases h32 : t.getD p 0 = 32
          · simp only [scan, okScan, h32, if_true, Bool.and_eq_true] at HS2 HK2
            have e32 : ((t.getD p 0).toNat : Int) = 32 := by rw [h32]; rfl
            rw [e32] at hix
            by_cases hq : q = 0
            · subst hq
              simp only [if_true] at HS2
              have HE := Lib.hid HS2
              have HL := Lib.hid hlt
              clear HS2 HK2 h32 e32 hlt hb
              go_wp2
              go_ret
              exact ⟨by rw [← HE.out]; rfl, by (repeat' (first | (with_reducible exact Up.refl _) | (with_reducible assumption) | (with_reducible refine Up.alloc ?_ _) | (with_reducible refine Up.drew ?_) | (with_reducible refine Up.drewN ?_ _) | (with_reducible refine Up.setCell ?_ ?_ _) | (with_reducible refine Up.call ?_ (by with_reducible assumption)) | go_size))⟩
            · have hq' : (q == 0) = false := by simpa using hq
              rw [if_neg hq] at HS2
              have HE := Lib.hid HS2
              have HF := Lib.hid HK2.2
              have HL := Lib.hid hlt
              clear HS2 HK2 h32 e32 hlt hb
              go_wp2
              go_round
              case rel => exact ⟨p + 1, q - 1, 0, HL.out, by go_num, rfl, rfl, HE, HF, by omega, by omega⟩
              case measure => have := HL.out; simp [intOf]; omega
          · have h32' : (((t.getD p 0).toNat : Int) == 32) = false := by
              rw [beq_eq_false_iff_ne]
              intro h
              exact h32 (UInt8.toNat_inj.1 (by show (t.getD p 0).toNat = 32; omega))
            simp only [scan, okScan, h32, if_false, Bool.and_eq_true] at HS2 HK2
            have HE : Hid (scan (t.drop (p + 1)) q (x * 10 + (((t.getD p 0).toNat : Int) - 48) % 256) = widthR i c) := Lib.hid HS2
            have HF : Hid (okScan (t.drop (p + 1)) (x * 10 + (((t.getD p 0).toNat : Int) - 48) % 256) = true) := Lib.hid HK2.2
            clear HS2 HK2 h32
            generalize (t.getD p 0).toNat = d at *
            have hd48 : IntKind.u8.wrap ((d : Int) - 48) = ((d : Int) - 48) % 256 := by rw [IntKind.wrap_u8]
            have hm0 : 0 ≤ ((d : Int) - 48) % 256 := by omega
            have hm1 : ((d : Int) - 48) % 256 ≤ 255 := by omega
            generalize ((d : Int) - 48) % 256 = m at *
            have HL := Lib.hid hlt
            clear hlt
            go_wp2
            go_round
            case rel => exact ⟨p + 1, q, x * 10 + m, HL.out, by go_num, rfl, rfl, HE, HF, hq0, hq1⟩
            case measure => have := HL.out; simp [intOf]; omega
        · have HE : Hid (widthR i c = x) := Lib.hid (by rw [← HS.out, List.drop_eq_nil_of_le (by omega)]; rfl)
          go_wp2
          go_ret
          exact ⟨by rw [HE.out]; rfl, by (repeat' (first | (with_reducible exact Up.refl _) | (with_reducible assumption) | (with_reducible refine Up.alloc ?_ _) | (with_reducible refine Up.drew ?_) | (with_reducible refine Up.drewN ?_ _) | (with_reducible refine Up.setCell ?_ ?_ _) | (with_reducible refine Up.call ?_ (by with_reducible assumption)) | go_size))⟩
  · have hin : inside i c = false := by simpa using hin
    have H := Lib.hid (show widthR i c = 0 by unfold widthR; rw [hin]; rfl)
    rcases inside_no hin with d1 | ⟨d1, d2, d3⟩ | ⟨d1, d2, d3, d4⟩ | ⟨d1, d2, d3, d4, d5⟩
    all_goals
      clear hin
      go_enter Tryd.func56, Tryd.ntmps56
      go_wp2
      go_ret
      exact ⟨by rw [H.out]; rfl, by (repeat' (first | (with_reducible exact Up.refl _) | (with_reducible assumption) | (with_reducible refine Up.alloc ?_ _) | (with_reducible refine Up.drew ?_) | (with_reducible refine Up.drewN ?_ _) | (with_reducible refine Up.setCell ?_ ?_ _) | (with_reducible refine Up.call ?_ (by with_reducible assumption)) | go_size))⟩

end Go.Proofs.YtjdbefpfjhdmoaaDoor.Font
