/- The reference's bitwise and integers. -/
import Derived.Test.YtakickodehebmaaDoorArRB
namespace Go.Proofs.YtakickodehebmaaDoor.Ar
open Go.ChangeShapes Go.WideShapes Go.ChangeAt Go.RowKit
open Go.Proofs.YtakickodehebmaaDoor.FixM (fits within)
open Go.Proofs.YtakickodehebmaaDoor.ArM
set_option linter.unusedVariables false
set_option linter.unusedSimpArgs false

theorem bit_fact (a : Int) (k : Nat) : ((a / 2 ^ k).tmod 2 != 0) = BitM.bitB a k := by
  unfold BitM.bitB
  generalize a / 2 ^ k = z
  have h1 : z.tmod 2 = 0 ↔ z % 2 = 0 := by rw [← Int.dvd_iff_tmod_eq_zero, Int.dvd_iff_emod_eq_zero]
  by_cases h : z % 2 = 0
  · have : ¬ z % 2 = 1 := by omega
    simp [h1.2 h, this]
  · have h2 : z % 2 = 1 := by omega
    have h3 : ¬ z.tmod 2 = 0 := fun e => h (h1.1 e)
    simp [h3, h2]
theorem w64 {n : Int} (h0 : -9223372036854775808 ≤ n) (h1 : n ≤ 9223372036854775807) : wrap64 n = n := by unfold wrap64; omega
theorem two_pow_le (k : Nat) (h : k < 32) : (0 : Int) ≤ 2 ^ k ∧ (2 : Int) ^ k ≤ 2147483648 := by
  have h1 : (2 : Nat) ^ k ≤ 2 ^ 31 := Nat.pow_le_pow_right (by decide) (by omega)
  have h2 : ((2 : Nat) ^ k : Int) ≤ ((2 ^ 31 : Nat) : Int) := by exact_mod_cast h1
  have h3 : (0 : Int) ≤ ((2 : Nat) ^ k : Int) := by exact_mod_cast Nat.zero_le (2 ^ k)
  constructor
  · simpa using h3
  · simpa using h2

set_option maxHeartbeats 1000000 in
theorem bitwise_0 (a b : Int) (h1 : -2147483648 ≤ a) (h2 : a ≤ 2147483647) (h3 : -2147483648 ≤ b) (h4 : b ≤ 2147483647) (w : World) :
    Calls Tryd.prog 25 #[.string ⟨#[97, 110, 100]⟩, .int .i64 a, .int .i64 b] w fun e w' => e = .returned (.int .i64 (BitM.res 0 a b)) ∧ w = w' := by
  go_enter Tryd.func25, Tryd.ntmps25
  go_wp2_with fail
  go_loop [7, 8] (fun s7 s8 => ∃ k : Nat, k ≤ 32 ∧ s8 = .int .i64 k ∧ s7 = .int .i64 (BitM.part 0 a b k)) (fun _ s8 => 32 - (intOf s8).toNat)
  case atStart => exact ⟨0, by decide, rfl, by rw [BitM.part_zero]⟩
  case round =>
    obtain ⟨k, hk, rfl, rfl⟩ := hrel
    by_cases hlt : k < 32
    · have d0 : decide ((k : Int) < 32) = true := decide_eq_true (by omega)
      obtain ⟨x, hx, hx2⟩ : ∃ x : Bool, ((a / 2 ^ k).tmod 2 != 0) = x ∧ BitM.bitB a k = x := ⟨_, rfl, (bit_fact a k).symm⟩
      obtain ⟨y, hy, hy2⟩ : ∃ y : Bool, ((b / 2 ^ k).tmod 2 != 0) = y ∧ BitM.bitB b k = y := ⟨_, rfl, (bit_fact b k).symm⟩
      have hs := BitM.part_step 0 a b k hlt
      obtain ⟨b1, b2⟩ := BitM.part_bound 0 a b k
      obtain ⟨p1, p2⟩ := two_pow_le k hlt
      rw [hx2, hy2] at hs
      have HI := Lib.hid hs
      clear hs hx2 hy2
      cases hz : BitM.bop 0 x y
      · have hs := HI.out
        rw [hz] at hs
        have HS := Lib.hid hs
        have HZ := Lib.hid hz
        clear hs hz HI
        go_wp2_with (go_at_call 24; ((with_reducible refine (logic_0 _ _ _).mono ?_); rw [HZ.out]; rintro E w1 ⟨rfl, rfl⟩))
        go_round
        case rel => exact ⟨k + 1, by omega, by go_num, by rw [HS.out]; rfl⟩
        case measure => simp [intOf]; omega
      · have hs := HI.out
        rw [hz] at hs
        have HS := Lib.hid hs
        have HZ := Lib.hid hz
        clear hs hz HI
        go_wp2_with (go_at_call 24; ((with_reducible refine (logic_0 _ _ _).mono ?_); rw [HZ.out]; rintro E w1 ⟨rfl, rfl⟩))
        go_round
        case rel => exact ⟨k + 1, by omega, by go_num, by rw [HS.out]; simp⟩
        case measure => simp [intOf]; omega
    · have d0 : decide ((k : Int) < 32) = false := decide_eq_false (by omega)
      obtain rfl : k = 32 := by omega
      have hr := BitM.res_part 0 a b
      obtain ⟨b1, b2⟩ := BitM.part_bound 0 a b 32
      generalize BitM.part 0 a b 32 = P at *
      by_cases hp : 2147483648 ≤ P
      · rw [if_pos hp] at hr
        have d1 : decide (2147483648 ≤ P) = true := decide_eq_true hp
        have HR := Lib.hid hr
        clear hr
        go_wp2
        go_ret
        exact ⟨by rw [HR.out]; rfl, rfl⟩
      · rw [if_neg hp] at hr
        have d1 : decide (2147483648 ≤ P) = false := decide_eq_false hp
        have HR := Lib.hid hr
        clear hr
        go_wp2
        go_ret
        exact ⟨by rw [HR.out]; rfl, rfl⟩

set_option maxHeartbeats 1000000 in
theorem bitwise_1 (a b : Int) (h1 : -2147483648 ≤ a) (h2 : a ≤ 2147483647) (h3 : -2147483648 ≤ b) (h4 : b ≤ 2147483647) (w : World) :
    Calls Tryd.prog 25 #[.string ⟨#[111, 114]⟩, .int .i64 a, .int .i64 b] w fun e w' => e = .returned (.int .i64 (BitM.res 1 a b)) ∧ w = w' := by
  go_enter Tryd.func25, Tryd.ntmps25
  go_wp2_with fail
  go_loop [7, 8] (fun s7 s8 => ∃ k : Nat, k ≤ 32 ∧ s8 = .int .i64 k ∧ s7 = .int .i64 (BitM.part 1 a b k)) (fun _ s8 => 32 - (intOf s8).toNat)
  case atStart => exact ⟨0, by decide, rfl, by rw [BitM.part_zero]⟩
  case round =>
    obtain ⟨k, hk, rfl, rfl⟩ := hrel
    by_cases hlt : k < 32
    · have d0 : decide ((k : Int) < 32) = true := decide_eq_true (by omega)
      obtain ⟨x, hx, hx2⟩ : ∃ x : Bool, ((a / 2 ^ k).tmod 2 != 0) = x ∧ BitM.bitB a k = x := ⟨_, rfl, (bit_fact a k).symm⟩
      obtain ⟨y, hy, hy2⟩ : ∃ y : Bool, ((b / 2 ^ k).tmod 2 != 0) = y ∧ BitM.bitB b k = y := ⟨_, rfl, (bit_fact b k).symm⟩
      have hs := BitM.part_step 1 a b k hlt
      obtain ⟨b1, b2⟩ := BitM.part_bound 1 a b k
      obtain ⟨p1, p2⟩ := two_pow_le k hlt
      rw [hx2, hy2] at hs
      have HI := Lib.hid hs
      clear hs hx2 hy2
      cases hz : BitM.bop 1 x y
      · have hs := HI.out
        rw [hz] at hs
        have HS := Lib.hid hs
        have HZ := Lib.hid hz
        clear hs hz HI
        go_wp2_with (go_at_call 24; ((with_reducible refine (logic_1 _ _ _).mono ?_); rw [HZ.out]; rintro E w1 ⟨rfl, rfl⟩))
        go_round
        case rel => exact ⟨k + 1, by omega, by go_num, by rw [HS.out]; rfl⟩
        case measure => simp [intOf]; omega
      · have hs := HI.out
        rw [hz] at hs
        have HS := Lib.hid hs
        have HZ := Lib.hid hz
        clear hs hz HI
        go_wp2_with (go_at_call 24; ((with_reducible refine (logic_1 _ _ _).mono ?_); rw [HZ.out]; rintro E w1 ⟨rfl, rfl⟩))
        go_round
        case rel => exact ⟨k + 1, by omega, by go_num, by rw [HS.out]; simp⟩
        case measure => simp [intOf]; omega
    · have d0 : decide ((k : Int) < 32) = false := decide_eq_false (by omega)
      obtain rfl : k = 32 := by omega
      have hr := BitM.res_part 1 a b
      obtain ⟨b1, b2⟩ := BitM.part_bound 1 a b 32
      generalize BitM.part 1 a b 32 = P at *
      by_cases hp : 2147483648 ≤ P
      · rw [if_pos hp] at hr
        have d1 : decide (2147483648 ≤ P) = true := decide_eq_true hp
        have HR := Lib.hid hr
        clear hr
        go_wp2
        go_ret
        exact ⟨by rw [HR.out]; rfl, rfl⟩
      · rw [if_neg hp] at hr
        have d1 : decide (2147483648 ≤ P) = false := decide_eq_false hp
        have HR := Lib.hid hr
        clear hr
        go_wp2
        go_ret
        exact ⟨by rw [HR.out]; rfl, rfl⟩

set_option maxHeartbeats 1000000 in
theorem bitwise_2 (a b : Int) (h1 : -2147483648 ≤ a) (h2 : a ≤ 2147483647) (h3 : -2147483648 ≤ b) (h4 : b ≤ 2147483647) (w : World) :
    Calls Tryd.prog 25 #[.string ⟨#[120, 111, 114]⟩, .int .i64 a, .int .i64 b] w fun e w' => e = .returned (.int .i64 (BitM.res 2 a b)) ∧ w = w' := by
  go_enter Tryd.func25, Tryd.ntmps25
  go_wp2_with fail
  go_loop [7, 8] (fun s7 s8 => ∃ k : Nat, k ≤ 32 ∧ s8 = .int .i64 k ∧ s7 = .int .i64 (BitM.part 2 a b k)) (fun _ s8 => 32 - (intOf s8).toNat)
  case atStart => exact ⟨0, by decide, rfl, by rw [BitM.part_zero]⟩
  case round =>
    obtain ⟨k, hk, rfl, rfl⟩ := hrel
    by_cases hlt : k < 32
    · have d0 : decide ((k : Int) < 32) = true := decide_eq_true (by omega)
      obtain ⟨x, hx, hx2⟩ : ∃ x : Bool, ((a / 2 ^ k).tmod 2 != 0) = x ∧ BitM.bitB a k = x := ⟨_, rfl, (bit_fact a k).symm⟩
      obtain ⟨y, hy, hy2⟩ : ∃ y : Bool, ((b / 2 ^ k).tmod 2 != 0) = y ∧ BitM.bitB b k = y := ⟨_, rfl, (bit_fact b k).symm⟩
      have hs := BitM.part_step 2 a b k hlt
      obtain ⟨b1, b2⟩ := BitM.part_bound 2 a b k
      obtain ⟨p1, p2⟩ := two_pow_le k hlt
      rw [hx2, hy2] at hs
      have HI := Lib.hid hs
      clear hs hx2 hy2
      cases hz : BitM.bop 2 x y
      · have hs := HI.out
        rw [hz] at hs
        have HS := Lib.hid hs
        have HZ := Lib.hid hz
        clear hs hz HI
        go_wp2_with (go_at_call 24; ((with_reducible refine (logic_2 _ _ _).mono ?_); rw [HZ.out]; rintro E w1 ⟨rfl, rfl⟩))
        go_round
        case rel => exact ⟨k + 1, by omega, by go_num, by rw [HS.out]; rfl⟩
        case measure => simp [intOf]; omega
      · have hs := HI.out
        rw [hz] at hs
        have HS := Lib.hid hs
        have HZ := Lib.hid hz
        clear hs hz HI
        go_wp2_with (go_at_call 24; ((with_reducible refine (logic_2 _ _ _).mono ?_); rw [HZ.out]; rintro E w1 ⟨rfl, rfl⟩))
        go_round
        case rel => exact ⟨k + 1, by omega, by go_num, by rw [HS.out]; simp⟩
        case measure => simp [intOf]; omega
    · have d0 : decide ((k : Int) < 32) = false := decide_eq_false (by omega)
      obtain rfl : k = 32 := by omega
      have hr := BitM.res_part 2 a b
      obtain ⟨b1, b2⟩ := BitM.part_bound 2 a b 32
      generalize BitM.part 2 a b 32 = P at *
      by_cases hp : 2147483648 ≤ P
      · rw [if_pos hp] at hr
        have d1 : decide (2147483648 ≤ P) = true := decide_eq_true hp
        have HR := Lib.hid hr
        clear hr
        go_wp2
        go_ret
        exact ⟨by rw [HR.out]; rfl, rfl⟩
      · rw [if_neg hp] at hr
        have d1 : decide (2147483648 ≤ P) = false := decide_eq_false hp
        have HR := Lib.hid hr
        clear hr
        go_wp2
        go_ret
        exact ⟨by rw [HR.out]; rfl, rfl⟩

/-- the quotient, the remainder and the product, within bounds -/
theorem quo_facts (a b : Int) (h1 : -2147483648 ≤ a) (h2 : a ≤ 2147483647) (hb : b ≠ 0) : ∃ q p, a.tdiv b = q ∧ q * b = p ∧ -2147483648 ≤ q ∧ q ≤ 2147483648 ∧ -2147483648 ≤ p ∧ p ≤ 2147483648 ∧ a - p = a.tmod b := by
  have e : b * a.tdiv b + a.tmod b = a := Int.mul_tdiv_add_tmod a b
  have hq : (a.tdiv b).natAbs ≤ a.natAbs := by rw [Int.natAbs_tdiv]; exact Nat.div_le_self _ _
  have hp : (a.tdiv b * b).natAbs ≤ a.natAbs := by rw [Int.natAbs_mul, Int.natAbs_tdiv]; exact Nat.div_mul_le_self _ _
  rw [Int.mul_comm] at e
  exact ⟨_, _, rfl, rfl, by omega, by omega, by omega, by omega, by omega⟩

set_option maxHeartbeats 1000000 in
theorem integers_14 (a b : Int) (h1 : -2147483648 ≤ a) (h2 : a ≤ 2147483647) (h3 : -2147483648 ≤ b) (h4 : b ≤ 2147483647) (rk rn re : Int) (w : World) (hR : quot 14 a b = (rk, rn, re)) :
    Calls Tryd.prog 26 #[.string ⟨#[105, 100, 105, 118]⟩, .int .i64 a, .int .i64 b] w fun E w' => GivesR w rk rn re E w' ∧ Up w w' := by
  by_cases hb : b = 0
  · subst hb
    obtain ⟨rfl, rfl, rfl⟩ : 0 = rk ∧ 0 = rn ∧ 18 = re := by simpa [quot] using hR
    clear hR
    go_enter Tryd.func26, Tryd.ntmps26
    go_wp2_with fail
    go_ret2
    exact ⟨⟨_, rfl, Or.inr ⟨by decide, rfl⟩⟩, by (repeat' (first | (with_reducible exact Up.refl _) | (with_reducible assumption) | (with_reducible refine Up.alloc ?_ _) | (with_reducible refine Up.drew ?_) | (with_reducible refine Up.drewN ?_ _) | (with_reducible refine Up.setCell ?_ ?_ _) | (with_reducible refine Up.call ?_ (by with_reducible assumption)) | go_size))⟩
  · have db : (b == 0) = false := by simpa using hb
    have db2 : decide (b = 0) = false := decide_eq_false hb
    obtain ⟨q, p, hq, hp, q1, q2, p1, p2, hm⟩ := quo_facts a b h1 h2 hb
    cases hf : fits q
    · obtain ⟨rfl, rfl, rfl⟩ : 0 = rk ∧ 0 = rn ∧ 18 = re := by simpa [quot, hb, hq, hf] using hR
      have HF := Lib.hid hf
      clear hR hm hf
      go_enter Tryd.func26, Tryd.ntmps26
      go_wp2_with (first
        | (go_at_call 28; ((with_reducible refine (small_r _ _).mono ?_); rw [HF.out]; rintro E w4 ⟨rfl, rfl⟩)))
      go_ret2
      exact ⟨⟨_, rfl, Or.inr ⟨by decide, rfl⟩⟩, by (repeat' (first | (with_reducible exact Up.refl _) | (with_reducible assumption) | (with_reducible refine Up.alloc ?_ _) | (with_reducible refine Up.drew ?_) | (with_reducible refine Up.drewN ?_ _) | (with_reducible refine Up.setCell ?_ ?_ _) | (with_reducible refine Up.call ?_ (by with_reducible assumption)) | go_size))⟩
    · obtain ⟨rfl, rfl, rfl⟩ : 1 = rk ∧ q = rn ∧ 0 = re := by simpa [quot, hb, hq, hf] using hR
      have HF := Lib.hid hf
      clear hR hm hf
      go_enter Tryd.func26, Tryd.ntmps26
      go_wp2_with (first
        | (go_at_call 28; ((with_reducible refine (small_r _ _).mono ?_); rw [HF.out]; rintro E w4 ⟨rfl, rfl⟩))
        | (go_at_call 22; ((with_reducible refine (whole_r _ _).mono ?_); rintro E w3 ⟨rfl, hu3⟩))
        | (go_at_call 19; ((with_reducible refine (one_r 1 q _).mono ?_); rintro E w2 ⟨⟨v, rfl, hv⟩, hu2⟩; have HV := Lib.hid hv; clear hv)))
      go_ret2
      exact ⟨⟨v, rfl, HV.out.of_up (by (repeat' (first | (with_reducible exact Up.refl _) | (with_reducible assumption) | (with_reducible refine Up.alloc ?_ _) | (with_reducible refine Up.drew ?_) | (with_reducible refine Up.drewN ?_ _) | (with_reducible refine Up.setCell ?_ ?_ _) | (with_reducible refine Up.call ?_ (by with_reducible assumption)) | go_size)))⟩, by (repeat' (first | (with_reducible exact Up.refl _) | (with_reducible assumption) | (with_reducible refine Up.alloc ?_ _) | (with_reducible refine Up.drew ?_) | (with_reducible refine Up.drewN ?_ _) | (with_reducible refine Up.setCell ?_ ?_ _) | (with_reducible refine Up.call ?_ (by with_reducible assumption)) | go_size))⟩

set_option maxHeartbeats 1000000 in
theorem integers_15 (a b : Int) (h1 : -2147483648 ≤ a) (h2 : a ≤ 2147483647) (h3 : -2147483648 ≤ b) (h4 : b ≤ 2147483647) (rk rn re : Int) (w : World) (hR : quot 15 a b = (rk, rn, re)) :
    Calls Tryd.prog 26 #[.string ⟨#[109, 111, 100]⟩, .int .i64 a, .int .i64 b] w fun E w' => GivesR w rk rn re E w' ∧ Up w w' := by
  by_cases hb : b = 0
  · subst hb
    obtain ⟨rfl, rfl, rfl⟩ : 0 = rk ∧ 0 = rn ∧ 18 = re := by simpa [quot] using hR
    clear hR
    go_enter Tryd.func26, Tryd.ntmps26
    go_wp2_with fail
    go_ret2
    exact ⟨⟨_, rfl, Or.inr ⟨by decide, rfl⟩⟩, by (repeat' (first | (with_reducible exact Up.refl _) | (with_reducible assumption) | (with_reducible refine Up.alloc ?_ _) | (with_reducible refine Up.drew ?_) | (with_reducible refine Up.drewN ?_ _) | (with_reducible refine Up.setCell ?_ ?_ _) | (with_reducible refine Up.call ?_ (by with_reducible assumption)) | go_size))⟩
  · have db : (b == 0) = false := by simpa using hb
    have db2 : decide (b = 0) = false := decide_eq_false hb
    obtain ⟨q, p, hq, hp, q1, q2, p1, p2, hm⟩ := quo_facts a b h1 h2 hb
    obtain ⟨rfl, rfl, rfl⟩ : 1 = rk ∧ a - p = rn ∧ 0 = re := by rw [hm]; simpa [quot, hb] using hR
    clear hR hm
    go_enter Tryd.func26, Tryd.ntmps26
    go_wp2_with (first
      | (go_at_call 22; ((with_reducible refine (whole_r _ _).mono ?_); rintro E w3 ⟨rfl, hu3⟩))
      | (go_at_call 19; ((with_reducible refine (one_r 1 (a - p) _).mono ?_); rintro E w2 ⟨⟨v, rfl, hv⟩, hu2⟩; have HV := Lib.hid hv; clear hv)))
    go_ret2
    exact ⟨⟨v, rfl, HV.out.of_up (by (repeat' (first | (with_reducible exact Up.refl _) | (with_reducible assumption) | (with_reducible refine Up.alloc ?_ _) | (with_reducible refine Up.drew ?_) | (with_reducible refine Up.drewN ?_ _) | (with_reducible refine Up.setCell ?_ ?_ _) | (with_reducible refine Up.call ?_ (by with_reducible assumption)) | go_size)))⟩, by (repeat' (first | (with_reducible exact Up.refl _) | (with_reducible assumption) | (with_reducible refine Up.alloc ?_ _) | (with_reducible refine Up.drew ?_) | (with_reducible refine Up.drewN ?_ _) | (with_reducible refine Up.setCell ?_ ?_ _) | (with_reducible refine Up.call ?_ (by with_reducible assumption)) | go_size))⟩

theorem shl_step (u : Int) (j : Nat) : u * 2 ^ j % 4294967296 * 2 % 4294967296 = u * 2 ^ (j + 1) % 4294967296 := by
  rw [Int.pow_succ, ← Int.mul_assoc, Int.mul_emod (u * 2 ^ j) 2, Int.mul_emod (u * 2 ^ j % 4294967296) 2, Int.emod_emod]
theorem shr_step (u : Int) (j : Nat) : u / 2 ^ j / 2 = u / 2 ^ (j + 1) := by
  rw [Int.pow_succ, Int.ediv_ediv, if_neg (fun h => absurd h.1 (Int.not_lt.2 (Int.pow_nonneg (by decide)))), Int.sub_zero]

set_option maxHeartbeats 1000000 in
theorem integers_19 (a b : Int) (h1 : -2147483648 ≤ a) (h2 : a ≤ 2147483647) (h3 : -2147483648 ≤ b) (h4 : b ≤ 2147483647) (rk rn re : Int) (w : World) (hR : (1, shiftI a b, 0) = (rk, rn, re)) :
    Calls Tryd.prog 26 #[.string ⟨#[98, 105, 116, 115, 104, 105, 102, 116]⟩, .int .i64 a, .int .i64 b] w fun E w' => GivesR w rk rn re E w' ∧ Up w w' := by
  obtain ⟨rfl, hrn, rfl⟩ : 1 = rk ∧ shiftI a b = rn ∧ 0 = re := by simpa using hR
  clear hR
  have hu : ∃ u : Int, u32 a = u ∧ 0 ≤ u ∧ u < 4294967296 := ⟨_, rfl, Int.emod_nonneg _ (by decide), Int.emod_lt_of_pos _ (by decide)⟩
  obtain ⟨u, hu, u0, u1⟩ := hu
  by_cases ho : 31 < b ∨ b < -31
  · obtain rfl : 0 = rn := by rw [← hrn, shiftI, if_pos ho]
    clear hrn
    have hx : (decide (31 < b) = true) ∨ (decide (31 < b) = false ∧ decide (b < -31) = true) := by
      by_cases h : 31 < b
      · exact .inl (decide_eq_true h)
      · exact .inr ⟨decide_eq_false h, decide_eq_true (by omega)⟩
    have ha : decide (a < 0) = true ∨ decide (a < 0) = false := by cases decide (a < 0) <;> simp
    clear ho
    rcases ha with ha | ha <;> rcases hx with hx | ⟨hx, hy⟩
    all_goals
      go_enter Tryd.func26, Tryd.ntmps26
      go_wp2_with (first
        | (go_at_call 22; ((with_reducible refine (whole_r _ _).mono ?_); rintro E w3 ⟨rfl, hu3⟩))
        | (go_at_call 19; ((with_reducible refine (one_r 1 0 _).mono ?_); rintro E w2 ⟨⟨v, rfl, hv⟩, hu2⟩; have HV := Lib.hid hv; clear hv)))
      go_ret2
      exact ⟨⟨v, rfl, HV.out.of_up (by (repeat' (first | (with_reducible exact Up.refl _) | (with_reducible assumption) | (with_reducible refine Up.alloc ?_ _) | (with_reducible refine Up.drew ?_) | (with_reducible refine Up.drewN ?_ _) | (with_reducible refine Up.setCell ?_ ?_ _) | (with_reducible refine Up.call ?_ (by with_reducible assumption)) | go_size)))⟩, by (repeat' (first | (with_reducible exact Up.refl _) | (with_reducible assumption) | (with_reducible refine Up.alloc ?_ _) | (with_reducible refine Up.drew ?_) | (with_reducible refine Up.drewN ?_ _) | (with_reducible refine Up.setCell ?_ ?_ _) | (with_reducible refine Up.call ?_ (by with_reducible assumption)) | go_size))⟩
  · have o1 : decide (31 < b) = false := decide_eq_false (by omega)
    have o2 : decide (b < -31) = false := decide_eq_false (by omega)
    have ha : (decide (a < 0) = true ∧ a + 4294967296 = u) ∨ (decide (a < 0) = false ∧ a = u) := by
      by_cases h : a < 0
      · exact .inl ⟨decide_eq_true h, by rw [← hu]; unfold u32; omega⟩
      · exact .inr ⟨decide_eq_false h, by rw [← hu]; unfold u32; omega⟩
    obtain ⟨B, hB⟩ : ∃ B : Nat, (B : Int) = if 0 ≤ b then b else 0 := ⟨(if 0 ≤ b then b else 0).toNat, by split <;> omega⟩
    obtain ⟨M, hM⟩ : ∃ M : Nat, (M : Int) = if 0 ≤ b then 0 else -b := ⟨(if 0 ≤ b then 0 else -b).toNat, by split <;> omega⟩
    have hBM : (B : Int) - M = b := by split at hB <;> omega
    have hB31 : B ≤ 31 := by split at hB <;> omega
    have hM31 : M ≤ 31 := by split at hB <;> omega
    have hz : B = 0 ∨ M = 0 := by split at hB <;> omega
    have hs : shiftI a b = i32 (u * 2 ^ B % 4294967296 / 2 ^ M) := by
      rw [shiftI, if_neg ho, hu]
      by_cases h : 0 ≤ b
      · have e1 : B = b.toNat := by rw [if_pos h] at hB; omega
        have e2 : M = 0 := by rw [if_pos h] at hM; omega
        rw [if_pos h, e1, e2]; simp
      · have e1 : B = 0 := by rw [if_neg h] at hB; omega
        have e2 : M = (-b).toNat := by rw [if_neg h] at hM; omega
        rw [if_neg h, e1, e2]; simp [Int.emod_eq_of_lt u0 u1]
    rw [hs] at hrn
    have HS := Lib.hid hrn
    clear hs ho hB hM hrn
    obtain rfl : (B : Int) - M = b := hBM
    clear hu
    rcases ha with ⟨ha, ea⟩ | ⟨ha, ea⟩
    all_goals
      have EA := Lib.hid ea
      clear ea
      go_enter Tryd.func26, Tryd.ntmps26
      go_wp2_with fail
      go_loop [1, 2] (fun s1 s2 => ∃ j : Nat, j ≤ B ∧ s2 = .int .i64 ((B : Int) - M - j) ∧ s1 = .int .i64 (u * 2 ^ j % 4294967296)) (fun _ s2 => (intOf s2 + 31).toNat)
      case atStart => exact ⟨0, by omega, by simp, by first | (rw [EA.out]; simp [Int.emod_eq_of_lt u0 u1]) | (rw [← EA.out]; simp; omega)⟩
      case round =>
        obtain ⟨j, hj, rfl, rfl⟩ := hrel
        by_cases hlt : j < B
        · have d0 : decide (0 < (B : Int) - M - j) = true := decide_eq_true (by omega)
          have st := shl_step u j
          have s0 : 0 ≤ u * 2 ^ j % 4294967296 := Int.emod_nonneg _ (by decide)
          have s1 : u * 2 ^ j % 4294967296 < 4294967296 := Int.emod_lt_of_pos _ (by decide)
          have ST := Lib.hid st
          clear st
          generalize u * 2 ^ j % 4294967296 = U at *
          go_wp2
          go_round
          case rel => exact ⟨j + 1, by omega, by go_num, by rw [← ST.out]⟩
          case measure => simp [intOf]; omega
        · have d0 : decide (0 < (B : Int) - M - j) = false := decide_eq_false (by omega)
          obtain rfl : j = B := by omega
          have s0 : 0 ≤ u * 2 ^ j % 4294967296 := Int.emod_nonneg _ (by decide)
          have s1 : u * 2 ^ j % 4294967296 < 4294967296 := Int.emod_lt_of_pos _ (by decide)
          generalize u * 2 ^ j % 4294967296 = U at *
          go_wp2
          go_loop [1, 2] (fun s1 s2 => ∃ i : Nat, i ≤ M ∧ s2 = .int .i64 ((i : Int) - M) ∧ s1 = .int .i64 (U / 2 ^ i)) (fun _ s2 => (-(intOf s2)).toNat)
          case atStart => exact ⟨0, by omega, by congr 1; omega, by simp⟩
          case round =>
            obtain ⟨i, hi, rfl, rfl⟩ := hrel
            have t0 : 0 ≤ U / 2 ^ i := Int.ediv_nonneg s0 (Int.pow_nonneg (by decide))
            have t1 : U / 2 ^ i ≤ U := Int.ediv_le_self _ s0
            have st := shr_step U i
            have ST := Lib.hid st
            clear st
            by_cases hlt : i < M
            · have d1 : decide ((i : Int) - M < 0) = true := decide_eq_true (by omega)
              generalize U / 2 ^ i = V at *
              go_wp2
              go_round
              case rel => exact ⟨i + 1, by omega, by go_num, by rw [← ST.out]⟩
              case measure => simp [intOf]; omega
            · have d1 : decide ((i : Int) - M < 0) = false := decide_eq_false (by omega)
              obtain rfl : i = M := by omega
              generalize U / 2 ^ i = V at *
              by_cases hv : 2147483648 ≤ V
              · have d2 : decide (2147483648 ≤ V) = true := decide_eq_true hv
                have e9 : i32 V = V - 4294967296 := by rw [i32, if_pos hv]
                have E9 := Lib.hid (HS.out.symm.trans e9)
                clear e9 hv
                go_wp2_with (first
                  | (go_at_call 22; ((with_reducible refine (whole_r _ _).mono ?_); rintro E w3 ⟨rfl, hu3⟩))
                  | (go_at_call 19; ((with_reducible refine (one_r 1 (V - 4294967296) _).mono ?_); rintro E w2 ⟨⟨v, rfl, hv⟩, hu2⟩; have HV := Lib.hid hv; clear hv)))
                go_ret2
                exact ⟨⟨v, rfl, by rw [E9.out]; exact HV.out.of_up (by (repeat' (first | (with_reducible exact Up.refl _) | (with_reducible assumption) | (with_reducible refine Up.alloc ?_ _) | (with_reducible refine Up.drew ?_) | (with_reducible refine Up.drewN ?_ _) | (with_reducible refine Up.setCell ?_ ?_ _) | (with_reducible refine Up.call ?_ (by with_reducible assumption)) | go_size)))⟩, by (repeat' (first | (with_reducible exact Up.refl _) | (with_reducible assumption) | (with_reducible refine Up.alloc ?_ _) | (with_reducible refine Up.drew ?_) | (with_reducible refine Up.drewN ?_ _) | (with_reducible refine Up.setCell ?_ ?_ _) | (with_reducible refine Up.call ?_ (by with_reducible assumption)) | go_size))⟩
              · have d2 : decide (2147483648 ≤ V) = false := decide_eq_false hv
                have e9 : i32 V = V := by rw [i32, if_neg hv]
                have E9 := Lib.hid (HS.out.symm.trans e9)
                clear e9 hv
                go_wp2_with (first
                  | (go_at_call 22; ((with_reducible refine (whole_r _ _).mono ?_); rintro E w3 ⟨rfl, hu3⟩))
                  | (go_at_call 19; ((with_reducible refine (one_r 1 V _).mono ?_); rintro E w2 ⟨⟨v, rfl, hv⟩, hu2⟩; have HV := Lib.hid hv; clear hv)))
                go_ret2
                exact ⟨⟨v, rfl, by rw [E9.out]; exact HV.out.of_up (by (repeat' (first | (with_reducible exact Up.refl _) | (with_reducible assumption) | (with_reducible refine Up.alloc ?_ _) | (with_reducible refine Up.drew ?_) | (with_reducible refine Up.drewN ?_ _) | (with_reducible refine Up.setCell ?_ ?_ _) | (with_reducible refine Up.call ?_ (by with_reducible assumption)) | go_size)))⟩, by (repeat' (first | (with_reducible exact Up.refl _) | (with_reducible assumption) | (with_reducible refine Up.alloc ?_ _) | (with_reducible refine Up.drew ?_) | (with_reducible refine Up.drewN ?_ _) | (with_reducible refine Up.setCell ?_ ?_ _) | (with_reducible refine Up.call ?_ (by with_reducible assumption)) | go_size))⟩

end Go.Proofs.YtakickodehebmaaDoor.Ar