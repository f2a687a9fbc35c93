/- What the sines and what turns return, in package mat and in its reference. The package's table lies as the program's text has it. -/
import Derived.Test.YtakickodehebmaaDoorMat2
import Derived.Test.YtakickodehebmaaDoorArgs
import Derived.Test.YtakickodehebmaaDoorStr
import Derived.Test.YtakickodehebmaaDoorTurnM
import Derived.Lib.LaidTab
namespace Go.Proofs.YtakickodehebmaaDoor.Turn
open Go.ChangeShapes Go.WideShapes Go.ChangeAt Go.RowKit
open Go.Proofs.YtakickodehebmaaDoor.FixM (fits)
open Go.Proofs.YtakickodehebmaaDoor.MatM (none6)
open Go.Proofs.YtakickodehebmaaDoor.TurnM
set_option linter.unusedVariables false
set_option linter.unusedSimpArgs false

/-- the table of package mat -/
structure Tab (w : World) : Prop where
  lt : 0 < w.heap.size
  cell : ∀ i, i < 91 → w.cell? ⟨0, i, none⟩ = some (.int .i64 (sineAt i))
theorem Tab.up {W W1 : World} (h : Tab W) (hup : Up W W1) : Tab W1 :=
  ⟨Nat.lt_of_lt_of_le h.lt hup.size, fun i hi => by rw [hup.cells.1 _ _ h.lt]; exact h.cell i hi⟩

theorem sine1_calls (d : Nat) (hd : d ≤ 180) (w : World) (hT : Tab w) :
    Calls Tryd.prog 81 #[.int .i64 (d : Int)] w fun e w' => e = .returned (.int .i64 (s1 d)) ∧ w = w' := by
  have e1 : (d : Int).tmod 360 = d := by rw [Int.tmod_eq_emod_of_nonneg (by omega)]; omega
  have e2 : (d : Int) % 360 = d := by omega
  have d1 : decide (180 < (d : Int)) = false := decide_eq_false (by omega)
  by_cases h : 90 < d
  · have d2 : decide (90 < (d : Int)) = true := decide_eq_true (by omega)
    have H := Lib.hid (show s1 d = sineAt (180 - d) by unfold s1; rw [if_pos h])
    have hcell := hT.cell (180 - d) (by omega)
    obtain ⟨k, hk⟩ : ∃ k, 180 - d = k := ⟨_, rfl⟩
    have e3 : (180 : Int) - d = k := by omega
    rw [hk] at H hcell
    have hk1 : k < 91 := by omega
    clear hT
    generalize sineAt k = z at *
    go_enter Tryd.func81, Tryd.ntmps81
    go_wp2
    go_ret
    exact ⟨by rw [H.out]; rfl, rfl⟩
  · have d2 : decide (90 < (d : Int)) = false := decide_eq_false (by omega)
    have H := Lib.hid (show s1 d = sineAt d by unfold s1; rw [if_neg h])
    have hcell := hT.cell d (by omega)
    have hk1 : d < 91 := by omega
    clear hT
    generalize sineAt d = z at *
    go_enter Tryd.func81, Tryd.ntmps81
    go_wp2
    go_ret
    exact ⟨by rw [H.out]; rfl, rfl⟩

theorem sine_calls (d : Int) (h0 : 0 ≤ d) (h1 : d ≤ 1000) (w : World) (hT : Tab w) :
    Calls Tryd.prog 81 #[.int .i64 d] w fun e w' => e = .returned (.int .i64 (sinI d)) ∧ w = w' := by
  obtain ⟨r, hr⟩ : ∃ r : Nat, d % 360 = (r : Int) := ⟨(d % 360).toNat, by omega⟩
  have e1 : d.tmod 360 = r := by rw [Int.tmod_eq_emod_of_nonneg h0]; exact hr
  have hr1 : r < 360 := by omega
  have er : (d % 360).toNat = r := by omega
  by_cases h : 180 < r
  · have d1 : decide (180 < (r : Int)) = true := decide_eq_true (by omega)
    obtain ⟨k, hk⟩ : ∃ k, r - 180 = k := ⟨_, rfl⟩
    have e3 : (r : Int) - 180 = k := by omega
    have H := Lib.hid (show sinI d = -(s1 k) by unfold sinI; rw [if_pos (by omega), er, hk])
    have hb := s1_bound (r := k) (by omega)
    have hk1 : k ≤ 180 := by omega
    have HT := Lib.hid hT
    clear hT h0 h1 hk er
    go_enter Tryd.func81, Tryd.ntmps81
    go_wp2_with (go_at_call 81; ((with_reducible refine (sine1_calls k hk1 _ HT.out).mono ?_); rintro e w' ⟨rfl, rfl⟩))
    go_ret
    exact ⟨by rw [H.out]; rfl, rfl⟩
  · have := sine1_calls r (by omega) w hT
    have H := Lib.hid (show sinI d = s1 r by unfold sinI; rw [if_neg (by omega), er])
    have d1 : decide (180 < (r : Int)) = false := decide_eq_false (by omega)
    by_cases h : 90 < r
    · have d2 : decide (90 < (r : Int)) = true := decide_eq_true (by omega)
      have H2 := Lib.hid (show s1 r = sineAt (180 - r) by unfold s1; rw [if_pos h])
      have hcell := hT.cell (180 - r) (by omega)
      obtain ⟨k, hk⟩ : ∃ k, 180 - r = k := ⟨_, rfl⟩
      have e3 : (180 : Int) - r = k := by omega
      rw [hk] at H2 hcell
      have hk1 : k < 91 := by omega
      clear hT this
      generalize sineAt k = z at *
      go_enter Tryd.func81, Tryd.ntmps81
      go_wp2
      go_ret
      exact ⟨by rw [H.out, H2.out]; rfl, rfl⟩
    · have d2 : decide (90 < (r : Int)) = false := decide_eq_false (by omega)
      have H2 := Lib.hid (show s1 r = sineAt r by unfold s1; rw [if_neg h])
      have hcell := hT.cell r (by omega)
      have hk1 : r < 91 := by omega
      clear hT this
      generalize sineAt r = z at *
      go_enter Tryd.func81, Tryd.ntmps81
      go_wp2
      go_ret
      exact ⟨by rw [H.out, H2.out]; rfl, rfl⟩

theorem rtab_calls (d : Nat) (hd : d < 91) (w : World) :
    Calls Tryd.prog 86 #[.int .i64 (d : Int)] w fun e w' => e = .returned (.int .i64 (sineAt d)) ∧ Up w w' := by
  obtain ⟨t, ht⟩ : ∃ t, sineText = t := ⟨_, rfl⟩
  have hlen : t.length ≤ 1000 := by rw [← ht]; exact sineText_len
  have HK : Hid (okScan (t.drop 0) 0 = true) := Lib.hid (by rw [← ht]; exact sineText_ok)
  have HS : Hid (scan (t.drop 0) d 0 = sineAt d) := Lib.hid (by rw [← ht]; exact (scan_at hd).1)
  have HT := Lib.hid ht
  clear ht
  go_enter Tryd.func86, Tryd.ntmps86
  go_wp2
  have hL : ((((([48, 32, 49, 49, 52, 52, 32, 50, 50, 56, 55, 32, 51, 52, 51, 48, 32, 52, 53, 55, 50, 32, 53, 55, 49, 50, 32, 54, 56, 53, 48, 32, 55] : List UInt8).append ([57, 56, 55, 32, 57, 49, 50, 49, 32, 49, 48, 50, 53, 50, 32, 49, 49, 51, 56, 48, 32, 49, 50, 53, 48, 53, 32, 49, 51, 54, 50, 54, 32] : List UInt8)).append (([49, 52, 55, 52, 50, 32, 49, 53, 56, 53, 53, 32, 49, 54, 57, 54, 50, 32, 49, 56, 48, 54, 52, 32, 49, 57, 49, 54, 49, 32, 50, 48, 50] : List UInt8).append ([53, 50, 32, 50, 49, 51, 51, 54, 32, 50, 50, 52, 49, 53, 32, 50, 51, 52, 56, 54, 32, 50, 52, 53, 53, 48, 32, 50, 53, 54, 48, 55, 32, 50] : List UInt8))).append ((([54, 54, 53, 54, 32, 50, 55, 54, 57, 55, 32, 50, 56, 55, 50, 57, 32, 50, 57, 55, 53, 51, 32, 51, 48, 55, 54, 55, 32, 51, 49, 55, 55] : List UInt8).append ([50, 32, 51, 50, 55, 54, 56, 32, 51, 51, 55, 53, 52, 32, 51, 52, 55, 50, 57, 32, 51, 53, 54, 57, 51, 32, 51, 54, 54, 52, 55, 32, 51] : List UInt8)).append (([55, 53, 57, 48, 32, 51, 56, 53, 50, 49, 32, 51, 57, 52, 52, 49, 32, 52, 48, 51, 52, 56, 32, 52, 49, 50, 52, 51, 32, 52, 50, 49, 50] : List UInt8).append ([54, 32, 52, 50, 57, 57, 53, 32, 52, 51, 56, 53, 50, 32, 52, 52, 54, 57, 53, 32, 52, 53, 53, 50, 53, 32, 52, 54, 51, 52, 49, 32, 52, 55] : List UInt8)))).append (((([49, 52, 51, 32, 52, 55, 57, 51, 48, 32, 52, 56, 55, 48, 51, 32, 52, 57, 52, 54, 49, 32, 53, 48, 50, 48, 51, 32, 53, 48, 57, 51, 49] : List UInt8).append ([32, 53, 49, 54, 52, 51, 32, 53, 50, 51, 51, 57, 32, 53, 51, 48, 50, 48, 32, 53, 51, 54, 56, 52, 32, 53, 52, 51, 51, 50, 32, 53, 52] : List UInt8)).append (([57, 54, 51, 32, 53, 53, 53, 55, 56, 32, 53, 54, 49, 55, 53, 32, 53, 54, 55, 53, 54, 32, 53, 55, 51, 49, 57, 32, 53, 55, 56, 54, 53] : List UInt8).append ([32, 53, 56, 51, 57, 51, 32, 53, 56, 57, 48, 51, 32, 53, 57, 51, 57, 54, 32, 53, 57, 56, 55, 48, 32, 54, 48, 51, 50, 54, 32, 54, 48, 55] : List UInt8))).append ((([54, 52, 32, 54, 49, 49, 56, 51, 32, 54, 49, 53, 56, 52, 32, 54, 49, 57, 54, 54, 32, 54, 50, 51, 50, 56, 32, 54, 50, 54, 55, 50, 32] : List UInt8).append ([54, 50, 57, 57, 55, 32, 54, 51, 51, 48, 51, 32, 54, 51, 53, 56, 57, 32, 54, 51, 56, 53, 54, 32, 54, 52, 49, 48, 52, 32, 54, 52, 51, 51] : List UInt8)).append (([50, 32, 54, 52, 53, 52, 48, 32, 54, 52, 55, 50, 57, 32, 54, 52, 56, 57, 56, 32, 54, 53, 48, 52, 56, 32, 54, 53, 49, 55, 55, 32, 54] : List UInt8).append ([53, 50, 56, 55, 32, 54, 53, 51, 55, 54, 32, 54, 53, 52, 52, 54, 32, 54, 53, 52, 57, 54, 32, 54, 53, 53, 50, 54, 32, 54, 53, 53, 51, 54] : List UInt8))))) = t := by rw [← HT.out]; decide +kernel
  rw [hL]
  clear hL
  go_loop [0, 4, 5] (fun k n j => ∃ (p : Nat) (q x : Int), p ≤ t.length ∧ j = .int .i64 p ∧ k = .int .i64 q ∧ n = .int .i64 x ∧ Hid (scan (t.drop p) q x = sineAt d) ∧ Hid (okScan (t.drop p) x = true) ∧ 0 ≤ q ∧ q ≤ 100) (fun _ _ j => t.length - (intOf j).toNat)
  case atStart => exact ⟨0, d, 0, Nat.zero_le _, rfl, rfl, rfl, HS, HK, by omega, by omega⟩
  case round =>
    obtain ⟨p, q, x, hp, rfl, rfl, rfl, HS, HK, hq0, hq1⟩ := hrel
    obtain ⟨hx0, hx1⟩ := okScan_bound HK.out
    by_cases hlt : p < t.length
    · have hix := run_index_list (P := Tryd.prog) w 9 t .i64 p Tryd.underlying9 hlt
      have hb : (t.getD p 0).toNat < 256 := UInt8.toNat_lt _
      have hdr : t.drop p = t.getD p 0 :: t.drop (p + 1) := by
        rw [List.drop_eq_getElem_cons hlt]; simp [List.getD, hlt]
      have HS2 := HS.out
      have HK2 := HK.out
      rw [hdr] at HS2 HK2
      have hlt2 : decide (p < t.length) = true := decide_eq_true hlt
      clear hdr HS HK
      by_cases h32 : t.getD p 0 = 32
      · simp only [scan, okScan, h32, if_true, Bool.and_eq_true] at HS2 HK2
        have e32 : ((t.getD p 0).toNat : Int) = 32 := by rw [h32]; rfl
        rw [e32] at hix
        by_cases hq : q = 0
        · subst hq
          simp only [if_true] at HS2
          have HE := Lib.hid HS2
          have HL := Lib.hid hlt
          clear HS2 HK2 h32 e32 hlt hb
          go_wp2
          go_ret
          exact ⟨by rw [← HE.out]; rfl, by (repeat' (first | (with_reducible exact Up.refl _) | (with_reducible assumption) | (with_reducible refine Up.alloc ?_ _) | (with_reducible refine Up.drew ?_) | (with_reducible refine Up.drewN ?_ _) | (with_reducible refine Up.setCell ?_ ?_ _) | (with_reducible refine Up.call ?_ (by with_reducible assumption)) | go_size))⟩
        · have hq' : (q == 0) = false := by simpa using hq
          rw [if_neg hq] at HS2
          have HE := Lib.hid HS2
          have HF := Lib.hid HK2.2
          have HL := Lib.hid hlt
          clear HS2 HK2 h32 e32 hlt hb
          go_wp2
          go_round
          case rel => exact ⟨p + 1, q - 1, 0, HL.out, by go_num, rfl, rfl, HE, HF, by omega, by omega⟩
          case measure => have := HL.out; simp [intOf]; omega
      · have h32' : (((t.getD p 0).toNat : Int) == 32) = false := by
          rw [beq_eq_false_iff_ne]
          intro h
          exact h32 (UInt8.toNat_inj.1 (by show (t.getD p 0).toNat = 32; omega))
        simp only [scan, okScan, h32, if_false, Bool.and_eq_true] at HS2 HK2
        have HE : Hid (scan (t.drop (p + 1)) q (x * 10 + (((t.getD p 0).toNat : Int) - 48) % 256) = sineAt d) := Lib.hid HS2
        have HF : Hid (okScan (t.drop (p + 1)) (x * 10 + (((t.getD p 0).toNat : Int) - 48) % 256) = true) := Lib.hid HK2.2
        clear HS2 HK2 h32
        generalize (t.getD p 0).toNat = c at *
        have hd48 : IntKind.u8.wrap ((c : Int) - 48) = ((c : Int) - 48) % 256 := by rw [IntKind.wrap_u8]
        have hm0 : 0 ≤ ((c : Int) - 48) % 256 := by omega
        have hm1 : ((c : Int) - 48) % 256 ≤ 255 := by omega
        generalize ((c : Int) - 48) % 256 = m at *
        have HL := Lib.hid hlt
        clear hlt
        go_wp2
        go_round
        case rel => exact ⟨p + 1, q, x * 10 + m, HL.out, by go_num, rfl, rfl, HE, HF, hq0, hq1⟩
        case measure => have := HL.out; simp [intOf]; omega
    · have HE : Hid (sineAt d = x) := Lib.hid (by rw [← HS.out, List.drop_eq_nil_of_le (by omega)]; rfl)
      go_wp2
      go_ret
      exact ⟨by rw [HE.out]; rfl, by (repeat' (first | (with_reducible exact Up.refl _) | (with_reducible assumption) | (with_reducible refine Up.alloc ?_ _) | (with_reducible refine Up.drew ?_) | (with_reducible refine Up.drewN ?_ _) | (with_reducible refine Up.setCell ?_ ?_ _) | (with_reducible refine Up.call ?_ (by with_reducible assumption)) | go_size))⟩

end Go.Proofs.YtakickodehebmaaDoor.Turn
