/- What the functions of package fix return, each over all numbers. No condition. -/
import Derived.Test.YtoflafbhfoncmaaDoorRows
import Derived.Test.YtoflafbhfoncmaaDoorFixM
import Derived.Test.YtoflafbhfoncmaaDoorBase
import Derived.WalkKit
import Derived.ProofKit
import Derived.OpenShut
import Derived.BigQuiet
import Derived.Deep.QuietTactic
import Derived.Lib.Hide
import Derived.Handy
namespace Go.Proofs.YtoflafbhfoncmaaDoor.Fix
open Go.ChangeShapes Go.WideShapes Go.ChangeAt Go.RowKit
open Go.Proofs.YtoflafbhfoncmaaDoor.FixM (fits within rnd rndp add sub mul div)

theorem fits_calls (n : Int) (w : World) :
    Calls Tryd.prog 59 #[.int .i64 n] w fun e w' => e = .returned (.bool (fits n)) ∧ w = w' := by
  by_cases h1 : -2147483648 ≤ n
  · by_cases h2 : n ≤ 2147483647
    · have HH := Lib.hid (FixM.fits_true h1 h2)
      go_enter Tryd.func59, Tryd.ntmps59
      go_wp2
      go_ret
      exact ⟨retb (by rw [HH.out]), rfl⟩
    · have HH := Lib.hid (show fits n = false from FixM.fits_false.2 (by omega))
      go_enter Tryd.func59, Tryd.ntmps59
      go_wp2
      go_ret
      exact ⟨retb (by rw [HH.out]), rfl⟩
  · have HH := Lib.hid (show fits n = false from FixM.fits_false.2 (by omega))
    go_enter Tryd.func59, Tryd.ntmps59
    go_wp2
    go_ret
    exact ⟨retb (by rw [HH.out]), rfl⟩

theorem within_calls (n : Int) (w : World) :
    Calls Tryd.prog 74 #[.int .i64 n] w fun e w' => e = .returned (.tuple #[.int .i64 (within n).1, .int .i64 (within n).2]) ∧ w = w' := by
  by_cases h : fits n = true
  · have H := Lib.hid (show within n = (n, 0) by simp [within, h])
    go_enter Tryd.func74, Tryd.ntmps74
    go_wp2_with (go_at_call 59; refine (fits_calls _ _).mono ?_; rintro e w' ⟨rfl, rfl⟩)
    go_ret2
    exact ⟨by rw [H.out]; rfl, rfl⟩
  · have h : fits n = false := by simpa using h
    have H := Lib.hid (show within n = (0, 18) by simp [within, h])
    go_enter Tryd.func74, Tryd.ntmps74
    go_wp2_with (go_at_call 59; refine (fits_calls _ _).mono ?_; rintro e w' ⟨rfl, rfl⟩)
    go_ret2
    exact ⟨by rw [H.out]; rfl, rfl⟩

theorem all_calls (zs : List Int) (b o c : Nat) (w : World) (hlen : zs.length ≤ 9223372036854775807)
    (hc : ∀ i, i < zs.length → w.cell? ⟨b, o + i, none⟩ = some (.int .i64 (zs.getD i 0))) :
    Calls Tryd.prog 73 #[.slice (some ⟨b, o, none⟩) zs.length c] w fun e w' => e = .returned (.bool (zs.all fits)) ∧ w = w' := by
  have HC := Lib.hid hc
  clear hc
  go_enter Tryd.func73, Tryd.ntmps73
  go_wp2
  go_loop [7] (fun i => ∃ k : Nat, k ≤ zs.length ∧ i = .int .i64 k ∧ (zs.take k).all fits = true) (fun i => zs.length - (intOf i).toNat)
  case atStart => exact ⟨0, Nat.zero_le _, rfl, by simp⟩
  case round =>
    obtain ⟨k, hk, rfl, hall⟩ := hrel
    have HA := Lib.hid hall
    clear hall
    by_cases hlt : k < zs.length
    · have hcell := HC.out k hlt
      have HN : Hid ((zs.take (k + 1)).all fits = fits (zs.getD k 0)) := Lib.hid (by
        rw [List.take_succ_eq_append_getElem hlt, List.all_append, HA.out]
        simp [List.getD, hlt])
      have HT : Hid (fits (zs.getD k 0) = false → zs.all fits = false) := Lib.hid (by
        intro h
        rw [List.all_eq_false]
        exact ⟨zs[k], List.getElem_mem hlt, by simpa [List.getD, hlt] using h⟩)
      generalize zs.getD k 0 = z at *
      by_cases hf : fits z = true
      · go_wp2_with (go_at_call 59; refine (fits_calls _ _).mono ?_; rintro e w' ⟨rfl, rfl⟩)
        go_round
        case rel => exact ⟨k + 1, by omega, by go_num, by rw [HN.out]; assumption⟩
        case measure => simp [intOf]; omega
      · have hf : fits z = false := by simpa using hf
        go_wp2_with (go_at_call 59; refine (fits_calls _ _).mono ?_; rintro e w' ⟨rfl, rfl⟩)
        go_ret
        exact ⟨retb (by rw [HT.out (by assumption)]), rfl⟩
    · go_wp2
      go_ret
      exact ⟨retb (by rw [← HA.out, List.take_of_length_le (by omega)]), rfl⟩


/-- numbers of a slice that was just made, as 'all' and 'Sum' are handed them -/
theorem all2_calls (x y : Int) (w : World) (b : Nat) (h0 : w.cell? ⟨b, 0, none⟩ = some (.int .i64 x)) (h1 : w.cell? ⟨b, 1, none⟩ = some (.int .i64 y)) :
    Calls Tryd.prog 73 #[.slice (some ⟨b, 0, none⟩) 2 2] w fun e w' => e = .returned (.bool (fits x && fits y)) ∧ w = w' := by
  have := all_calls [x, y] b 0 2 w (by simp) (fun i hi => by
    rcases i with _ | _ | i
    · simpa using h0
    · simpa using h1
    · simp at hi; omega)
  simpa using this

theorem add_calls (x y : Int) (w : World) :
    Calls Tryd.prog 76 #[.int .i64 x, .int .i64 y] w fun e w' => e = .returned (.tuple #[.int .i64 (add x y).1, .int .i64 (add x y).2]) ∧ Up w w' := by
  by_cases hf : (fits x && fits y) = true
  · have H := Lib.hid (show add x y = within (x + y) by simp only [add, hf, if_true])
    have hf' := hf
    simp only [Bool.and_eq_true, FixM.fits_iff] at hf'
    obtain ⟨⟨h1, h2⟩, h3, h4⟩ := hf'
    go_enter Tryd.func76, Tryd.ntmps76
    go_wp2_with (first
      | (go_at_call 73; refine (all2_calls x y _ _ (by go_cell) (by go_cell)).mono ?_; rintro e w' ⟨rfl, rfl⟩)
      | (go_at_call 74; refine (within_calls _ _).mono ?_; rintro e w' ⟨rfl, rfl⟩))
    go_ret2
    exact ⟨by rw [H.out]; rfl, by (repeat' (first | (with_reducible exact Up.refl _) | (with_reducible assumption) | (with_reducible refine Up.alloc ?_ _) | (with_reducible refine Up.drew ?_) | (with_reducible refine Up.drewN ?_ _) | (with_reducible refine Up.setCell ?_ ?_ _) | (with_reducible refine Up.call ?_ (by with_reducible assumption)) | go_size))⟩
  · have hf : (fits x && fits y) = false := by simpa using hf
    have H := Lib.hid (show add x y = (0, 11) by simp [add, hf])
    go_enter Tryd.func76, Tryd.ntmps76
    go_wp2_with (go_at_call 73; refine (all2_calls x y _ _ (by go_cell) (by go_cell)).mono ?_; rintro e w' ⟨rfl, rfl⟩)
    go_ret2
    exact ⟨by rw [H.out]; rfl, by (repeat' (first | (with_reducible exact Up.refl _) | (with_reducible assumption) | (with_reducible refine Up.alloc ?_ _) | (with_reducible refine Up.drew ?_) | (with_reducible refine Up.drewN ?_ _) | (with_reducible refine Up.setCell ?_ ?_ _) | (with_reducible refine Up.call ?_ (by with_reducible assumption)) | go_size))⟩

/-- a quotient, rounded -/
theorem overp_calls (a b : Int) (w : World) (hb : 1 ≤ b) (hb2 : b ≤ 2147483648) (ha : -4611686018427387904 ≤ a) (ha2 : a ≤ 4611686018427387904) :
    Calls Tryd.prog 75 #[.int .i64 a, .int .i64 b] w fun e w' => e = .returned (.int .i64 (rndp a b)) ∧ Up w w' := by
  obtain ⟨-, k1, k2, -⟩ := FixM.tdm a b (by omega)
  obtain ⟨k3, k4⟩ := FixM.tdiv_le a b (by omega)
  obtain ⟨-, -, -, -, -, k5, k6⟩ := FixM.tdm a b (by omega)
  have k7 : -4611686018427387904 ≤ a.tdiv b := by omega
  have k8 : a.tdiv b ≤ 4611686018427387904 := by omega
  clear k3 k4 k5 k6
  by_cases c1 : b ≤ 2 * a.tmod b
  · have H := Lib.hid (show rndp a b = a.tdiv b + 1 by simp only [rndp, c1, if_true])
    go_enter Tryd.func75, Tryd.ntmps75
    go_wp2
    go_quiet (fail)
    go_wp2
    go_ret
    exact ⟨by rw [H.out]; rfl, by (repeat' (first | (with_reducible exact Up.refl _) | (with_reducible assumption) | (with_reducible refine Up.alloc ?_ _) | (with_reducible refine Up.drew ?_) | (with_reducible refine Up.drewN ?_ _) | (with_reducible refine Up.setCell ?_ ?_ _) | (with_reducible refine Up.call ?_ (by with_reducible assumption)) | go_size))⟩
  · by_cases c2 : b ≤ -2 * a.tmod b
    · have H := Lib.hid (show rndp a b = a.tdiv b - 1 by simp only [rndp, c1, c2, if_true, if_false])
      go_enter Tryd.func75, Tryd.ntmps75
      go_wp2
      go_quiet (fail)
      go_wp2
      go_ret
      exact ⟨by rw [H.out]; rfl, by (repeat' (first | (with_reducible exact Up.refl _) | (with_reducible assumption) | (with_reducible refine Up.alloc ?_ _) | (with_reducible refine Up.drew ?_) | (with_reducible refine Up.drewN ?_ _) | (with_reducible refine Up.setCell ?_ ?_ _) | (with_reducible refine Up.call ?_ (by with_reducible assumption)) | go_size))⟩
    · have H := Lib.hid (show rndp a b = a.tdiv b by simp only [rndp, c1, c2, if_false])
      go_enter Tryd.func75, Tryd.ntmps75
      go_wp2
      go_quiet (fail)
      go_wp2
      go_ret
      exact ⟨by rw [H.out]; rfl, by (repeat' (first | (with_reducible exact Up.refl _) | (with_reducible assumption) | (with_reducible refine Up.alloc ?_ _) | (with_reducible refine Up.drew ?_) | (with_reducible refine Up.drewN ?_ _) | (with_reducible refine Up.setCell ?_ ?_ _) | (with_reducible refine Up.call ?_ (by with_reducible assumption)) | go_size))⟩

theorem overn_calls (a b : Int) (w : World) (hb : b ≤ -1) (hb2 : -2147483648 ≤ b) (ha : -4611686018427387904 ≤ a) (ha2 : a ≤ 4611686018427387904) :
    Calls Tryd.prog 75 #[.int .i64 a, .int .i64 b] w fun e w' => e = .returned (.int .i64 (rndp (-a) (-b))) ∧ Up w w' := by
  rw [FixM.rndp_neg_neg]
  obtain ⟨k1, k2, k3, k4⟩ := FixM.tdmn a b (by omega)
  have k7 : -4611686018427387904 ≤ a.tdiv b := by omega
  have k8 : a.tdiv b ≤ 4611686018427387904 := by omega
  clear k3 k4
  by_cases c1 : -b ≤ 2 * -a.tmod b
  · rw [if_pos c1]
    go_enter Tryd.func75, Tryd.ntmps75
    go_wp2
    go_quiet (fail)
    go_wp2
    go_ret
    exact ⟨rfl, by (repeat' (first | (with_reducible exact Up.refl _) | (with_reducible assumption) | (with_reducible refine Up.alloc ?_ _) | (with_reducible refine Up.drew ?_) | (with_reducible refine Up.drewN ?_ _) | (with_reducible refine Up.setCell ?_ ?_ _) | (with_reducible refine Up.call ?_ (by with_reducible assumption)) | go_size))⟩
  · rw [if_neg c1]
    by_cases c2 : -b ≤ -2 * -a.tmod b
    · rw [if_pos c2]
      go_enter Tryd.func75, Tryd.ntmps75
      go_wp2
      go_quiet (fail)
      go_wp2
      go_ret
      exact ⟨rfl, by (repeat' (first | (with_reducible exact Up.refl _) | (with_reducible assumption) | (with_reducible refine Up.alloc ?_ _) | (with_reducible refine Up.drew ?_) | (with_reducible refine Up.drewN ?_ _) | (with_reducible refine Up.setCell ?_ ?_ _) | (with_reducible refine Up.call ?_ (by with_reducible assumption)) | go_size))⟩
    · rw [if_neg c2]
      go_enter Tryd.func75, Tryd.ntmps75
      go_wp2
      go_quiet (fail)
      go_wp2
      go_ret
      exact ⟨rfl, by (repeat' (first | (with_reducible exact Up.refl _) | (with_reducible assumption) | (with_reducible refine Up.alloc ?_ _) | (with_reducible refine Up.drew ?_) | (with_reducible refine Up.drewN ?_ _) | (with_reducible refine Up.setCell ?_ ?_ _) | (with_reducible refine Up.call ?_ (by with_reducible assumption)) | go_size))⟩

theorem over_calls (a b : Int) (w : World) (hb : b ≠ 0) (hb1 : b ≤ 2147483648) (hb2 : -2147483648 ≤ b) (ha : -4611686018427387904 ≤ a) (ha2 : a ≤ 4611686018427387904) :
    Calls Tryd.prog 75 #[.int .i64 a, .int .i64 b] w fun e w' => e = .returned (.int .i64 (rnd a b)) ∧ Up w w' := by
  unfold rnd
  by_cases h : b < 0
  · rw [if_pos h]; exact overn_calls a b w (by omega) hb2 ha ha2
  · rw [if_neg h]; exact overp_calls a b w (by omega) hb1 ha ha2

theorem mul_calls (x y : Int) (w : World) :
    Calls Tryd.prog 71 #[.int .i64 x, .int .i64 y] w fun e w' => e = .returned (.tuple #[.int .i64 (mul x y).1, .int .i64 (mul x y).2]) ∧ Up w w' := by
  by_cases hf : (fits x && fits y) = true
  · have H := Lib.hid (show mul x y = within (rnd (x * y) 65536) by simp only [mul, hf, if_true])
    have hf' := hf
    rw [Bool.and_eq_true] at hf'
    obtain ⟨h1, h2⟩ := FixM.mul_bound hf'.1 hf'.2
    clear hf'
    go_enter Tryd.func71, Tryd.ntmps71
    go_wp2_with (first
      | (go_at_call 73; ((with_reducible refine (all2_calls x y _ _ (by go_cell) (by go_cell)).mono ?_); rintro e w' ⟨rfl, rfl⟩))
      | (go_at_call 75; ((with_reducible refine (over_calls (x * y) 65536 _ (by decide) (by decide) (by decide) h1 h2).mono ?_); rintro e w' ⟨rfl, hu⟩))
      | (go_at_call 74; ((with_reducible refine (within_calls _ _).mono ?_); rintro e w' ⟨rfl, rfl⟩)))
    go_ret2
    exact ⟨by rw [H.out]; rfl, by (repeat' (first | (with_reducible exact Up.refl _) | (with_reducible assumption) | (with_reducible refine Up.alloc ?_ _) | (with_reducible refine Up.drew ?_) | (with_reducible refine Up.drewN ?_ _) | (with_reducible refine Up.setCell ?_ ?_ _) | (with_reducible refine Up.call ?_ (by with_reducible assumption)) | go_size))⟩
  · have hf : (fits x && fits y) = false := by simpa using hf
    have H := Lib.hid (show mul x y = (0, 11) by simp [mul, hf])
    go_enter Tryd.func71, Tryd.ntmps71
    go_wp2_with (go_at_call 73; ((with_reducible refine (all2_calls x y _ _ (by go_cell) (by go_cell)).mono ?_); rintro e w' ⟨rfl, rfl⟩))
    go_ret2
    exact ⟨by rw [H.out]; rfl, by (repeat' (first | (with_reducible exact Up.refl _) | (with_reducible assumption) | (with_reducible refine Up.alloc ?_ _) | (with_reducible refine Up.drew ?_) | (with_reducible refine Up.drewN ?_ _) | (with_reducible refine Up.setCell ?_ ?_ _) | (with_reducible refine Up.call ?_ (by with_reducible assumption)) | go_size))⟩

end Go.Proofs.YtoflafbhfoncmaaDoor.Fix
