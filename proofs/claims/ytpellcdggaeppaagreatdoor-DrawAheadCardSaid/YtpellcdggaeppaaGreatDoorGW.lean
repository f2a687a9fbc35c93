/- Package dec's digits. Its condition: a number that is not too great. The reference's Dec. Its condition: a number that is not too great. Fractions as texts; the reference's Print and PrintReal. Its condition: a number that fits. The reference's Print and PrintReal. Its condition: a number that fits. -/
import Derived.Test.YtpellcdggaeppaaGreatDoorPobL
import Derived.Test.YtpellcdggaeppaaGreatDoorGR
section
namespace Go.Proofs.YtpellcdggaeppaaGreatDoor.Pob
open Go.ChangeShapes Go.WideShapes Go.RowKit Go.Shelf
set_option linter.unusedVariables false
set_option linter.unusedSimpArgs false


/-- the digits of a number that is not below 0 -/
def decL (n : Nat) : List UInt8 := if h : n < 10 then [UInt8.ofNat (48 + n)] else decL (n / 10) ++ [UInt8.ofNat (48 + n % 10)]
termination_by n
decreasing_by omega
theorem decL_small {n : Nat} (h : n < 10) : decL n = [UInt8.ofNat (48 + n)] := by rw [decL, dif_pos h]
theorem decL_big {n : Nat} (h : ¬ n < 10) : decL n = decL (n / 10) ++ [UInt8.ofNat (48 + n % 10)] := by rw [decL, dif_neg h]
theorem str_app (a b : List UInt8) : (⟨a.toArray⟩ : ByteArray) ++ ⟨b.toArray⟩ = ⟨(a ++ b).toArray⟩ := by
  apply ByteArray.ext
  simp
theorem decL_le : ∀ (k n : Nat), n < 10 ^ (k + 1) → (decL n).length ≤ k + 1
  | 0, n, h => by rw [decL_small (by simpa using h)]; simp
  | k + 1, n, h => by
    by_cases h1 : n < 10
    · rw [decL_small h1]; simp
    · rw [decL_big h1, List.length_append, List.length_singleton]
      have := decL_le k (n / 10) (by rw [Nat.div_lt_iff_lt_mul (by decide)]; rw [Nat.pow_succ] at h; exact h)
      omega
theorem decL_len (n : Nat) (h : n < 10000000000) : (decL n).length ≤ 100 := Nat.le_trans (decL_le 9 n (by simpa using h)) (by decide)
theorem utf8_digit (n : Nat) (h : n < 10) : Utf8.encode (48 + (n : Int)) = ⟨#[UInt8.ofNat (48 + n)]⟩ := by
  have h2 : n = 0 ∨ n = 1 ∨ n = 2 ∨ n = 3 ∨ n = 4 ∨ n = 5 ∨ n = 6 ∨ n = 7 ∨ n = 8 ∨ n = 9 := by omega
  rcases h2 with rfl | rfl | rfl | rfl | rfl | rfl | rfl | rfl | rfl | rfl <;> rfl
set_option maxRecDepth 8000 in
theorem digits_small (n : Nat) (L : List UInt8) (w : World) (h : n < 10) (hL : [UInt8.ofNat (48 + n)] = L) : Calls Tryz.prog 126 #[.int .i64 (n : Int)] w fun e w' => e = .returned (.string ⟨L.toArray⟩) ∧ w = w' := by
  have HL := Lib.hid hL
  clear hL
  have H9 := Lib.hid h
  have d1 : decide (n < 10) = true := decide_eq_true h
  go_enter Tryz.func126, Tryz.ntmps126
  go_wp2
  go_ret
  exact ⟨by rw [← HL.out]; exact congrArg (fun x => Ending.returned (Value.string x)) (utf8_digit n H9.out), rfl⟩
set_option maxRecDepth 8000 in
theorem digits_big (n q r : Nat) (L M : List UInt8) (w : World) (hn : n ≤ 1000000000) (h : 10 ≤ n) (hL : L.length ≤ 100) (hM : L ++ [UInt8.ofNat (48 + r)] = M) (hq : n / 10 = q) (hr : n % 10 = r) (ih : ∀ w, Calls Tryz.prog 126 #[.int .i64 (q : Int)] w fun e w' => e = .returned (.string ⟨L.toArray⟩) ∧ w = w') : Calls Tryz.prog 126 #[.int .i64 (n : Int)] w fun e w' => e = .returned (.string ⟨M.toArray⟩) ∧ w = w' := by
  have HM := Lib.hid hM
  clear hM
  have HI := Lib.hid ih
  obtain ⟨N, hN⟩ : ∃ N : Int, (n : Int) = N := ⟨_, rfl⟩
  have HQ := Lib.hid (show N / 10 = (q : Int) by omega)
  have HR := Lib.hid (show N % 10 = (r : Int) by omega)
  have HR9 := Lib.hid (show r < 10 by omega)
  rw [hN]
  have g1 : 10 ≤ N := by omega
  have g2 : N ≤ 1000000000 := by omega
  have d1 : decide (N < 10) = false := decide_eq_false (by omega)
  clear hN hq hr ih h hn
  go_enter Tryz.func126, Tryz.ntmps126
  go_wp2_with (go_at_call 126; ((with_reducible rw [HQ.out]); (with_reducible refine (HI.out _).mono ?_); rintro e w1 ⟨rfl, rfl⟩))
  case isTrue h1 =>
    exfalso
    have h2 : (Utf8.encode (48 + N % 10)).size = 1 := by rw [HR.out, utf8_digit r HR9.out]; rfl
    omega
  go_ret
  refine ⟨?_, rfl⟩
  have h3 : Utf8.encode (48 + N % 10) = ⟨#[UInt8.ofNat (48 + r)]⟩ := by rw [HR.out, utf8_digit r HR9.out]
  show Ending.returned (Value.string ((⟨L.toArray⟩ : ByteArray) ++ Utf8.encode (48 + N % 10))) = _
  rw [h3, ← HM.out, str_app]
theorem digits_calls : ∀ (n : Nat) (w : World), n ≤ 1000000000 → Calls Tryz.prog 126 #[.int .i64 (n : Int)] w fun e w' => e = .returned (.string ⟨(decL n).toArray⟩) ∧ w = w' := by
  intro n
  induction n using Nat.strongRecOn with
  | ind n ih =>
    intro w hn
    by_cases h : n < 10
    · exact digits_small n (decL n) w h (decL_small h).symm
    · exact digits_big n (n / 10) (n % 10) (decL (n / 10)) (decL n) w hn (by omega) (decL_len _ (by omega)) (decL_big h).symm rfl rfl (fun w => ih (n / 10) (by omega) w (by omega))

end Go.Proofs.YtpellcdggaeppaaGreatDoor.Pob
end

section
namespace Go.Proofs.YtpellcdggaeppaaGreatDoor.Pob
open Go.ChangeShapes Go.WideShapes Go.RowKit Go.Shelf
set_option linter.unusedVariables false
set_option linter.unusedSimpArgs false


theorem u8_digit (r : Nat) (h : r < 10) : ((UInt8.ofNat (48 + r)).toNat : Int) = 48 + (r : Int) := by
  rw [UInt8.toNat_ofNat']
  omega
set_option maxRecDepth 8000 in
set_option maxHeartbeats 1000000 in
theorem udec_calls (n : Nat) (hn : n < 10000000000) (w : World) : Calls Tryz.prog 37 #[.int .u64 (n : Int)] w fun e w' => e = .returned (.string ⟨(decL n).toArray⟩) ∧ Up w w' := by
  have HN := Lib.hid hn
  obtain ⟨D, hD⟩ : ∃ D, decL n = D := ⟨_, rfl⟩
  rw [hD]
  have HL := Lib.hid (show D.length ≤ 100 by rw [← hD]; exact decL_len n hn)
  obtain ⟨N, hN⟩ : ∃ N : Int, (n : Int) = N := ⟨_, rfl⟩
  rw [hN]
  have HD := Lib.hid hD
  have HNN := Lib.hid hN
  clear hD hN hn
  go_enter Tryz.func37, Tryz.ntmps37
  go_wp2
  go_loopw [0, 3] (fun s0 s3 wr => ∃ (u : Nat) (U : Int) (L : List UInt8), s0 = .int .u64 U ∧ s3 = .string ⟨L.toArray⟩ ∧ Hid ((u : Int) = U) ∧ Hid (u < 10000000000) ∧ Hid (D = decL u ++ L) ∧ Hid (L.length ≤ 100) ∧ Hid (Up w wr)) (fun s0 _ _ => (intOf s0).toNat)
  case atStart => exact ⟨n, N, [], rfl, rfl, HNN, HN, Lib.hid (by rw [HD.out]; simp), Lib.hid (by simp), Lib.hid (Up.refl _)⟩
  case round =>
    obtain ⟨u, U, L, rfl, rfl, HU, HUN, HDU, HLL, HUP⟩ := hrel
    have g1 : 0 ≤ U := by have := HU.out; omega
    have g2 : U < 10000000000 := by have := HU.out; have := HUN.out; omega
    have l1 : L.length ≤ 100 := HLL.out
    obtain ⟨c, hc, hc2⟩ : ∃ c : UInt8, ((c.toNat : Int)) = 48 + U % 10 ∧ c = UInt8.ofNat (48 + u % 10) := ⟨UInt8.ofNat (48 + u % 10), by rw [u8_digit _ (by omega)]; have := HU.out; omega, rfl⟩
    have HC := Lib.hid hc2
    have cv : (convert 27 9 (.slice (some ⟨wr.heap.size, 0, none⟩) 1 1)).run Tryz.prog (wr.alloc (.cells #[.int .u8 (48 + U % 10)] 5)) = .ok (.string ⟨#[c]⟩) (wr.alloc (.cells #[.int .u8 (48 + U % 10)] 5)) := by
      rw [← hc]
      exact BytesAt.conv (l := [c]) ⟨⟨wr.heap.size, 1, rfl, by simp, by decide, by simp, fun j hj => by
        obtain rfl : j = 0 := by simpa using hj
        exact (show Row (wr.alloc (.cells #[.int .u8 (c.toNat : Int)] 5)) wr.heap.size #[.int .u8 (c.toNat : Int)] by (repeat' (with_reducible first | assumption | (refine Row.at _ _ ?_; (simp; done)) | refine Row.alloc ?_ _ | refine Row.drew ?_ | refine Row.drewN ?_ _ | refine Row.other ?_ (by first | (simp; done) | (simp; omega) | omega) _ | refine Row.up ?_ (by assumption) | refine Row.chg ?_ (by assumption) (by first | (simp; done) | (simp; omega))))).cell 0 rfl⟩⟩
    clear hc hc2
    have HST : Hid ((⟨#[c]⟩ : ByteArray) ++ ⟨L.toArray⟩ = ⟨(c :: L).toArray⟩) := Lib.hid (str_app [c] L)
    by_cases h : u < 10
    · have g3 : U < 10 := by have := HU.out; omega
      have HE := Lib.hid (show D = c :: L by rw [HDU.out, decL_small h, HC.out, Nat.mod_eq_of_lt h]; rfl)
      have g4 : (U / 10 == 0) = true := by simp; omega
      clear h
      go_wp2
      go_ret
      exact ⟨by rw [HE.out, ← HST.out]; rfl, Up.alloc HUP.out _⟩
    · have g3 : 10 ≤ U := by have := HU.out; omega
      have HE := Lib.hid (show D = decL (u / 10) ++ (c :: L) by rw [HDU.out, decL_big h, HC.out, List.append_assoc]; rfl)
      have HLL2 := Lib.hid (show (c :: L).length ≤ 100 by have h1 := HE.out; have h2 := HL.out; rw [h1, List.length_append] at h2; omega)
      have g4 : (U / 10 == 0) = false := by simp; omega
      have HQ := Lib.hid (show ((u / 10 : Nat) : Int) = U / 10 by have := HU.out; omega)
      clear h
      go_wp2
      rw [HST.out]
      go_roundw
      case rel => exact ⟨u / 10, U / 10, c :: L, rfl, rfl, HQ, Lib.hid (by have := HUN.out; omega), HE, HLL2, Lib.hid (Up.alloc HUP.out _)⟩
      case measure => simp only [intOf]; omega
set_option maxRecDepth 8000 in
/-- the decimal numeral of a number -/
theorem dec_nat (n : Nat) (hn : n < 10000000000) (w : World) : Calls Tryz.prog 16 #[.int .i64 (n : Int)] w fun e w' => e = .returned (.string ⟨(decL n).toArray⟩) ∧ Up w w' := by
  have HU := Lib.hid (fun W => udec_calls n hn W)
  obtain ⟨N, hN⟩ : ∃ N : Int, (n : Int) = N := ⟨_, rfl⟩
  have HU2 : Hid (∀ W, Calls Tryz.prog 37 #[.int .u64 N] W fun e w' => e = .returned (.string ⟨(decL n).toArray⟩) ∧ Up W w') := Lib.hid (fun W => by rw [← hN]; exact HU.out W)
  rw [hN]
  have g1 : 0 ≤ N := by omega
  have g2 : N < 10000000000 := by omega
  have d1 : decide (N < 0) = false := decide_eq_false (by omega)
  clear hN hn HU
  go_enter Tryz.func16, Tryz.ntmps16
  go_wp2_with (go_at_call 37; ((with_reducible refine (HU2.out _).mono ?_); rintro e w1 ⟨rfl, hu1⟩))
  go_ret
  exact ⟨rfl, by (repeat' (first | (with_reducible first | exact Up.refl _ | assumption | refine Up.alloc ?_ _ | refine Up.drew ?_ | refine Up.drewN ?_ _ | refine Up.setCell ?_ ?_ _ | refine Up.call ?_ (by assumption)) | go_size))⟩
set_option maxRecDepth 8000 in
theorem dec_neg (n : Nat) (h0 : 0 < n) (hn : n < 10000000000) (w : World) : Calls Tryz.prog 16 #[.int .i64 (-(n : Int))] w fun e w' => e = .returned (.string ⟨(45 :: decL n).toArray⟩) ∧ Up w w' := by
  have HU := Lib.hid (fun W => udec_calls n hn W)
  obtain ⟨L, hL⟩ : ∃ L, decL n = L := ⟨_, rfl⟩
  have hlen : L.length ≤ 100 := by rw [← hL]; exact decL_len n hn
  obtain ⟨N, hN⟩ : ∃ N : Int, -(n : Int) = N := ⟨_, rfl⟩
  have HU2 : Hid (∀ W, Calls Tryz.prog 37 #[.int .u64 (-(N + 1) + 1)] W fun e w' => e = .returned (.string ⟨L.toArray⟩) ∧ Up W w') := Lib.hid (fun W => by rw [← hL, show -(N + 1) + 1 = (n : Int) by omega]; exact HU.out W)
  rw [hN, hL]
  have g1 : N < 0 := by omega
  have g2 : -10000000000 < N := by omega
  have d1 : decide (N < 0) = true := decide_eq_true (by omega)
  have HST : Hid ((⟨#[45]⟩ : ByteArray) ++ ⟨L.toArray⟩ = ⟨(45 :: L).toArray⟩) := Lib.hid (str_app [45] L)
  clear hN hn HU hL h0
  go_enter Tryz.func16, Tryz.ntmps16
  go_wp2_with (go_at_call 37; ((with_reducible refine (HU2.out _).mono ?_); rintro e w1 ⟨rfl, hu1⟩))
  go_ret
  exact ⟨by rw [← HST.out]; rfl, by (repeat' (first | (with_reducible first | exact Up.refl _ | assumption | refine Up.alloc ?_ _ | refine Up.drew ?_ | refine Up.drewN ?_ _ | refine Up.setCell ?_ ?_ _ | refine Up.call ?_ (by assumption)) | go_size))⟩

end Go.Proofs.YtpellcdggaeppaaGreatDoor.Pob
end

section
namespace Go.Proofs.YtpellcdggaeppaaGreatDoor.Pob
open Go.ChangeShapes Go.WideShapes Go.RowKit Go.Shelf
set_option linter.unusedVariables false
set_option linter.unusedSimpArgs false


/-- how far a fraction's digits may go on -/
def meas (f : Nat) : Nat := 65536 / Nat.gcd f 65536
def chk : Nat → Bool
  | 0 => true
  | n + 1 => (n == 0 || Nat.blt (meas (n * 10 % 65536)) (meas n)) && chk n
set_option maxRecDepth 1000000 in
theorem chk_all : chk 65536 = true := by decide +kernel
theorem chk_at : ∀ N n, chk N = true → n < N → 0 < n → meas (n * 10 % 65536) < meas n
  | 0, n, _, h, _ => absurd h (Nat.not_lt_zero _)
  | N + 1, n, hc, h, h0 => by
    simp only [chk, Bool.and_eq_true, Bool.or_eq_true, beq_iff_eq] at hc
    by_cases e : n = N
    · subst e
      rcases hc.1 with h1 | h1
      · omega
      · simpa [Nat.blt_eq] using h1
    · exact chk_at N n hc.2 (by omega) h0
theorem meas_lt {f : Nat} (h : 0 < f ∧ f < 65536) : meas (f * 10 % 65536) < meas f := chk_at 65536 f chk_all h.2 h.1
/-- the digits behind the point -/
def fracL (f : Nat) : List UInt8 := if h : 0 < f ∧ f < 65536 then UInt8.ofNat (48 + f * 10 / 65536) :: fracL (f * 10 % 65536) else []
termination_by meas f
decreasing_by exact meas_lt h
theorem fracL_zero : fracL 0 = [] := by rw [fracL, dif_neg (by omega)]
theorem fracL_pos {f : Nat} (h : 0 < f ∧ f < 65536) : fracL f = UInt8.ofNat (48 + f * 10 / 65536) :: fracL (f * 10 % 65536) := by rw [fracL, dif_pos h]
theorem meas_le (f : Nat) : meas f ≤ 65536 := Nat.div_le_self _ _
theorem fracL_len : ∀ (k f : Nat), meas f ≤ k → (fracL f).length ≤ k
  | 0, f, h => by
    by_cases h1 : 0 < f ∧ f < 65536
    · have := meas_lt h1; omega
    · rw [fracL, dif_neg h1]; simp
  | k + 1, f, h => by
    by_cases h1 : 0 < f ∧ f < 65536
    · rw [fracL_pos h1, List.length_cons]
      have := fracL_len k (f * 10 % 65536) (by have := meas_lt h1; omega)
      omega
    · rw [fracL, dif_neg h1]; simp
def fracP (r : Nat) : List UInt8 := if r = 0 then [] else 46 :: fracL r
/-- a number with its digits behind the point -/
def prM (m : Nat) : List UInt8 := decL (m / 65536) ++ fracP (m % 65536)
def prP (n : Int) : List UInt8 := if n < 0 then 45 :: prM n.natAbs else prM n.natAbs
theorem prM_len (m : Nat) (h : m < 10000000000) : (prM m).length ≤ 100000 := by
  unfold prM fracP
  have h1 := decL_len (m / 65536) (by omega)
  have h2 := fracL_len 65536 (m % 65536) (meas_le _)
  rw [List.length_append]
  split
  · simp; omega
  · rw [List.length_cons]; omega

set_option maxRecDepth 8000 in
set_option maxHeartbeats 2000000 in
theorem rprint_pos (m : Nat) (hm : m ≤ 2147483648) (hf : (decide (-2147483648 ≤ (m : Int)) && decide ((m : Int) ≤ 2147483647)) = true) (w : World) : Calls Tryz.prog 57 #[.int .i64 (m : Int)] w fun e w' => e = .returned (.string ⟨([] ++ prM m).toArray⟩) ∧ Up w w' := by
  have HF := Lib.hid (fun W => rfits_pob (m : Int) true hf W)
  obtain ⟨D, hD⟩ : ∃ D, decL (m / 65536) = D := ⟨_, rfl⟩
  obtain ⟨R, hR⟩ : ∃ R : Nat, m % 65536 = R := ⟨_, rfl⟩
  obtain ⟨X, hX⟩ : ∃ X, [] ++ prM m = X := ⟨_, rfl⟩
  have HX := Lib.hid (show X = [] ++ (D ++ fracP R) by rw [← hX, ← hD, ← hR]; rfl)
  have HXL := Lib.hid (show X.length ≤ 100001 by rw [← hX, List.length_append]; have := prM_len m (by omega); simp; omega)
  have dl : D.length ≤ 100 := by rw [← hD]; exact decL_len _ (by omega)
  obtain ⟨M, hM⟩ : ∃ M : Int, (m : Int) = M := ⟨_, rfl⟩
  have HQ : Hid (∀ W, Calls Tryz.prog 16 #[.int .i64 (M / 65536)] W fun e w' => e = .returned (.string ⟨D.toArray⟩) ∧ Up W w') := Lib.hid (fun W => by rw [← hD, ← hM, show (m : Int) / 65536 = ((m / 65536 : Nat) : Int) by omega]; exact dec_nat _ (by omega) W)
  have HRM := Lib.hid (show M % 65536 = (R : Int) by omega)
  have rl : R < 65536 := by omega
  rw [hM] at HF ⊢
  rw [hX]
  have g1 : 0 ≤ M := by omega
  have g2 : M ≤ 2147483648 := by omega
  obtain ⟨mf, HMF⟩ : ∃ mf : Nat → Nat, Hid (∀ f, 0 < f ∧ f < 65536 → mf (f * 10 % 65536) < mf f) := ⟨meas, Lib.hid (fun f h => meas_lt h)⟩
  clear hD hR hX hM hm hf 
  have SL0 : Hid ((⟨#[]⟩ : ByteArray) = ⟨([] : List UInt8).toArray⟩) := Lib.hid rfl
  by_cases hz : R = 0
  · have t0 : decide (0 < M % 65536) = false := decide_eq_false (by have := HRM.out; omega)
    subst hz
    have HE := Lib.hid (show X = [] ++ D by rw [HX.out]; simp [fracP])
    go_enter Tryz.func57, Tryz.ntmps57
    go_wp2_with (first | (go_at_call 54; ((with_reducible refine (HF.out _).mono ?_); rintro e w1 ⟨rfl, rfl⟩)) | (go_at_call 16; ((with_reducible refine (HQ.out _).mono ?_); rintro e w2 ⟨rfl, hu2⟩)))
    go_loop [3, 4] (fun s3 s4 => ∃ S : ByteArray, s3 = .string S ∧ s4 = .int .i64 (M % 65536) ∧ Hid (S = ⟨X.toArray⟩)) (fun _ _ => 0)
    case atStart => exact ⟨_, rfl, rfl, Lib.hid (by rw [HE.out]; first | rfl | exact str_app [] D)⟩
    case round =>
      obtain ⟨S, rfl, rfl, HS⟩ := hrel
      go_wp2
      go_ret
      exact ⟨by rw [← HS.out]; rfl, by (repeat' (first | (with_reducible first | exact Up.refl _ | assumption | refine Up.alloc ?_ _ | refine Up.drew ?_ | refine Up.drewN ?_ _ | refine Up.setCell ?_ ?_ _ | refine Up.call ?_ (by assumption)) | go_size))⟩
  · have hz0 : 0 < R := by omega
    have HE := Lib.hid (show X = ([] ++ D ++ [46]) ++ fracL R by rw [HX.out]; simp [fracP, hz])
    have d3 : decide (0 < M % 65536) = true := decide_eq_true (by have := HRM.out; omega)
    clear hz
    go_enter Tryz.func57, Tryz.ntmps57
    go_wp2_with (first | (go_at_call 54; ((with_reducible refine (HF.out _).mono ?_); rintro e w1 ⟨rfl, rfl⟩)) | (go_at_call 16; ((with_reducible refine (HQ.out _).mono ?_); rintro e w2 ⟨rfl, hu2⟩)))
    go_loopw [3, 4] (fun s3 s4 wr => ∃ (f : Nat) (F : Int) (S : ByteArray) (P : List UInt8), s3 = .string S ∧ s4 = .int .i64 F ∧ Hid ((f : Int) = F) ∧ Hid (f < 65536) ∧ Hid (S = ⟨P.toArray⟩) ∧ Hid (X = P ++ fracL f) ∧ Hid (Up w wr)) (fun _ s4 _ => mf (intOf s4).toNat)
    case atStart => exact ⟨R, M % 65536, _, [] ++ D ++ [46], rfl, rfl, Lib.hid HRM.out.symm, Lib.hid rl, Lib.hid (by exact (congrArg (· ++ (⟨#[46]⟩ : ByteArray)) (str_app [] D)).trans (str_app ([] ++ D) [46])), HE, Lib.hid (by (repeat' (first | (with_reducible first | exact Up.refl _ | assumption | refine Up.alloc ?_ _ | refine Up.drew ?_ | refine Up.drewN ?_ _ | refine Up.setCell ?_ ?_ _ | refine Up.call ?_ (by assumption)) | go_size)))⟩
    case round =>
      obtain ⟨f, F, S, P, rfl, rfl, HFF, HFL, HS, HXP, HUP⟩ := hrel
      have hss : S.size ≤ 100001 := by
        rw [HS.out]
        show P.toArray.size ≤ 100001
        have h1 := HXL.out
        rw [HXP.out, List.length_append] at h1
        simp; omega
      have g3 : 0 ≤ F := by have := HFF.out; omega
      have g4 : F < 65536 := by have := HFF.out; have := HFL.out; omega
      by_cases h0 : 0 < f
      · have g5 : 0 < F := by have := HFF.out; omega
        have HM2 := Lib.hid (HMF.out f ⟨h0, HFL.out⟩)
        have HD2 : Hid (∀ W, Calls Tryz.prog 16 #[.int .i64 (F * 10 / 65536)] W fun e w' => e = .returned (.string ⟨#[UInt8.ofNat (48 + f * 10 / 65536)]⟩) ∧ Up W w') := Lib.hid (fun W => by
          have hd := dec_nat (f * 10 / 65536) (by have := HFL.out; omega) W
          rw [decL_small (by have := HFL.out; omega)] at hd
          rw [show F * 10 / 65536 = ((f * 10 / 65536 : Nat) : Int) by have := HFF.out; omega]
          exact hd)
        obtain ⟨c, hc⟩ : ∃ c, UInt8.ofNat (48 + f * 10 / 65536) = c := ⟨_, rfl⟩
        have HXP2 := Lib.hid (show X = (P ++ [c]) ++ fracL (f * 10 % 65536) by rw [HXP.out, fracL_pos ⟨h0, HFL.out⟩, hc]; simp)
        rw [hc] at HD2
        have HQ2 := Lib.hid (show ((f * 10 % 65536 : Nat) : Int) = F * 10 % 65536 by have := HFF.out; omega)
        clear hc h0
        go_wp2_with (go_at_call 16; ((with_reducible refine (HD2.out _).mono ?_); rintro e w3 ⟨rfl, hu3⟩))
        go_roundw
        case rel => exact ⟨f * 10 % 65536, F * 10 % 65536, _, P ++ [c], rfl, rfl, HQ2, Lib.hid (by omega), Lib.hid (by rw [HS.out]; exact str_app P [c]), HXP2, Lib.hid (HUP.out.call hu3)⟩
        case measure =>
          have e1 : (F * 10 % 65536).toNat = f * 10 % 65536 := by rw [← HQ2.out]; exact Int.toNat_natCast _
          have e2 : F.toNat = f := by rw [← HFF.out]; exact Int.toNat_natCast _
          simp only [intOf]
          rw [e1, e2]
          exact HM2.out
      · have g5 : F = 0 := by have := HFF.out; omega
        obtain rfl : f = 0 := by omega
        have HXP2 := Lib.hid (show X = P by rw [HXP.out, fracL_zero, List.append_nil])
        subst g5
        go_wp2
        go_ret
        exact ⟨by rw [HXP2.out, ← HS.out]; rfl, HUP.out⟩
set_option maxRecDepth 8000 in
set_option maxHeartbeats 2000000 in
theorem rprint_neg (m : Nat) (h0 : 0 < m) (hm : m ≤ 2147483648) (hf : (decide (-2147483648 ≤ (-m : Int)) && decide ((-m : Int) ≤ 2147483647)) = true) (w : World) : Calls Tryz.prog 57 #[.int .i64 (-m : Int)] w fun e w' => e = .returned (.string ⟨([45] ++ prM m).toArray⟩) ∧ Up w w' := by
  have HF := Lib.hid (fun W => rfits_pob (-m : Int) true hf W)
  obtain ⟨D, hD⟩ : ∃ D, decL (m / 65536) = D := ⟨_, rfl⟩
  obtain ⟨R, hR⟩ : ∃ R : Nat, m % 65536 = R := ⟨_, rfl⟩
  obtain ⟨X, hX⟩ : ∃ X, [45] ++ prM m = X := ⟨_, rfl⟩
  have HX := Lib.hid (show X = [45] ++ (D ++ fracP R) by rw [← hX, ← hD, ← hR]; rfl)
  have HXL := Lib.hid (show X.length ≤ 100001 by rw [← hX, List.length_append]; have := prM_len m (by omega); simp; omega)
  have dl : D.length ≤ 100 := by rw [← hD]; exact decL_len _ (by omega)
  obtain ⟨M, hM⟩ : ∃ M : Int, (m : Int) = M := ⟨_, rfl⟩
  have HQ : Hid (∀ W, Calls Tryz.prog 16 #[.int .i64 (M / 65536)] W fun e w' => e = .returned (.string ⟨D.toArray⟩) ∧ Up W w') := Lib.hid (fun W => by rw [← hD, ← hM, show (m : Int) / 65536 = ((m / 65536 : Nat) : Int) by omega]; exact dec_nat _ (by omega) W)
  have HRM := Lib.hid (show M % 65536 = (R : Int) by omega)
  have rl : R < 65536 := by omega
  rw [hM] at HF ⊢
  rw [hX]
  have g1 : 1 ≤ M := by omega
  have g2 : M ≤ 2147483648 := by omega
  obtain ⟨mf, HMF⟩ : ∃ mf : Nat → Nat, Hid (∀ f, 0 < f ∧ f < 65536 → mf (f * 10 % 65536) < mf f) := ⟨meas, Lib.hid (fun f h => meas_lt h)⟩
  clear hD hR hX hM hm hf h0
  have SL0 : Hid ((⟨#[45]⟩ : ByteArray) = ⟨([45] : List UInt8).toArray⟩) := Lib.hid rfl
  by_cases hz : R = 0
  · have t0 : decide (0 < M % 65536) = false := decide_eq_false (by have := HRM.out; omega)
    subst hz
    have HE := Lib.hid (show X = [45] ++ D by rw [HX.out]; simp [fracP])
    go_enter Tryz.func57, Tryz.ntmps57
    go_wp2_with (first | (go_at_call 54; ((with_reducible refine (HF.out _).mono ?_); rintro e w1 ⟨rfl, rfl⟩)) | (go_at_call 16; ((with_reducible refine (HQ.out _).mono ?_); rintro e w2 ⟨rfl, hu2⟩)))
    go_loop [3, 4] (fun s3 s4 => ∃ S : ByteArray, s3 = .string S ∧ s4 = .int .i64 (M % 65536) ∧ Hid (S = ⟨X.toArray⟩)) (fun _ _ => 0)
    case atStart => exact ⟨_, rfl, rfl, Lib.hid (by rw [HE.out]; exact str_app [45] D)⟩
    case round =>
      obtain ⟨S, rfl, rfl, HS⟩ := hrel
      go_wp2
      go_ret
      exact ⟨by rw [← HS.out]; rfl, by (repeat' (first | (with_reducible first | exact Up.refl _ | assumption | refine Up.alloc ?_ _ | refine Up.drew ?_ | refine Up.drewN ?_ _ | refine Up.setCell ?_ ?_ _ | refine Up.call ?_ (by assumption)) | go_size))⟩
  · have hz0 : 0 < R := by omega
    have HE := Lib.hid (show X = ([45] ++ D ++ [46]) ++ fracL R by rw [HX.out]; simp [fracP, hz])
    have d3 : decide (0 < M % 65536) = true := decide_eq_true (by have := HRM.out; omega)
    clear hz
    go_enter Tryz.func57, Tryz.ntmps57
    go_wp2_with (first | (go_at_call 54; ((with_reducible refine (HF.out _).mono ?_); rintro e w1 ⟨rfl, rfl⟩)) | (go_at_call 16; ((with_reducible refine (HQ.out _).mono ?_); rintro e w2 ⟨rfl, hu2⟩)))
    go_loopw [3, 4] (fun s3 s4 wr => ∃ (f : Nat) (F : Int) (S : ByteArray) (P : List UInt8), s3 = .string S ∧ s4 = .int .i64 F ∧ Hid ((f : Int) = F) ∧ Hid (f < 65536) ∧ Hid (S = ⟨P.toArray⟩) ∧ Hid (X = P ++ fracL f) ∧ Hid (Up w wr)) (fun _ s4 _ => mf (intOf s4).toNat)
    case atStart => exact ⟨R, M % 65536, _, [45] ++ D ++ [46], rfl, rfl, Lib.hid HRM.out.symm, Lib.hid rl, Lib.hid (by exact (congrArg (· ++ (⟨#[46]⟩ : ByteArray)) (str_app [45] D)).trans (str_app ([45] ++ D) [46])), HE, Lib.hid (by (repeat' (first | (with_reducible first | exact Up.refl _ | assumption | refine Up.alloc ?_ _ | refine Up.drew ?_ | refine Up.drewN ?_ _ | refine Up.setCell ?_ ?_ _ | refine Up.call ?_ (by assumption)) | go_size)))⟩
    case round =>
      obtain ⟨f, F, S, P, rfl, rfl, HFF, HFL, HS, HXP, HUP⟩ := hrel
      have hss : S.size ≤ 100001 := by
        rw [HS.out]
        show P.toArray.size ≤ 100001
        have h1 := HXL.out
        rw [HXP.out, List.length_append] at h1
        simp; omega
      have g3 : 0 ≤ F := by have := HFF.out; omega
      have g4 : F < 65536 := by have := HFF.out; have := HFL.out; omega
      by_cases h0 : 0 < f
      · have g5 : 0 < F := by have := HFF.out; omega
        have HM2 := Lib.hid (HMF.out f ⟨h0, HFL.out⟩)
        have HD2 : Hid (∀ W, Calls Tryz.prog 16 #[.int .i64 (F * 10 / 65536)] W fun e w' => e = .returned (.string ⟨#[UInt8.ofNat (48 + f * 10 / 65536)]⟩) ∧ Up W w') := Lib.hid (fun W => by
          have hd := dec_nat (f * 10 / 65536) (by have := HFL.out; omega) W
          rw [decL_small (by have := HFL.out; omega)] at hd
          rw [show F * 10 / 65536 = ((f * 10 / 65536 : Nat) : Int) by have := HFF.out; omega]
          exact hd)
        obtain ⟨c, hc⟩ : ∃ c, UInt8.ofNat (48 + f * 10 / 65536) = c := ⟨_, rfl⟩
        have HXP2 := Lib.hid (show X = (P ++ [c]) ++ fracL (f * 10 % 65536) by rw [HXP.out, fracL_pos ⟨h0, HFL.out⟩, hc]; simp)
        rw [hc] at HD2
        have HQ2 := Lib.hid (show ((f * 10 % 65536 : Nat) : Int) = F * 10 % 65536 by have := HFF.out; omega)
        clear hc h0
        go_wp2_with (go_at_call 16; ((with_reducible refine (HD2.out _).mono ?_); rintro e w3 ⟨rfl, hu3⟩))
        go_roundw
        case rel => exact ⟨f * 10 % 65536, F * 10 % 65536, _, P ++ [c], rfl, rfl, HQ2, Lib.hid (by omega), Lib.hid (by rw [HS.out]; exact str_app P [c]), HXP2, Lib.hid (HUP.out.call hu3)⟩
        case measure =>
          have e1 : (F * 10 % 65536).toNat = f * 10 % 65536 := by rw [← HQ2.out]; exact Int.toNat_natCast _
          have e2 : F.toNat = f := by rw [← HFF.out]; exact Int.toNat_natCast _
          simp only [intOf]
          rw [e1, e2]
          exact HM2.out
      · have g5 : F = 0 := by have := HFF.out; omega
        obtain rfl : f = 0 := by omega
        have HXP2 := Lib.hid (show X = P by rw [HXP.out, fracL_zero, List.append_nil])
        subst g5
        go_wp2
        go_ret
        exact ⟨by rw [HXP2.out, ← HS.out]; rfl, HUP.out⟩


end Go.Proofs.YtpellcdggaeppaaGreatDoor.Pob
end

section
namespace Go.Proofs.YtpellcdggaeppaaGreatDoor.Pob
open Go.ChangeShapes Go.WideShapes Go.RowKit Go.Shelf
set_option linter.unusedVariables false
set_option linter.unusedSimpArgs false

theorem rprint_calls (n : Int) (h1 : -2147483648 ≤ n) (h2 : n ≤ 2147483647) (w : World) : Calls Tryz.prog 57 #[.int .i64 n] w fun e w' => e = .returned (.string ⟨(prP n).toArray⟩) ∧ Up w w' := by
  by_cases hn : n < 0
  · have e : n = -((n.natAbs : Nat) : Int) := by omega
    have e2 : prP n = [45] ++ prM n.natAbs := by unfold prP; rw [if_pos hn]; rfl
    rw [e2]
    have := rprint_neg n.natAbs (by omega) (by omega) (by rw [← e]; simp [h1, h2]) w
    rw [← e] at this
    exact this
  · have e : n = ((n.natAbs : Nat) : Int) := by omega
    have e2 : prP n = [] ++ prM n.natAbs := by unfold prP; rw [if_neg hn]; rfl
    rw [e2]
    have := rprint_pos n.natAbs (by omega) (by rw [← e]; simp [h1, h2]) w
    rw [← e] at this
    exact this
/-- a number with a point in any case -/
def prR (n : Int) : List UInt8 := if n.natAbs % 65536 = 0 then prP n ++ [46, 48] else prP n
theorem prP_len (n : Int) (h1 : -2147483648 ≤ n) (h2 : n ≤ 2147483647) : (prP n).length ≤ 100001 := by
  unfold prP
  have := prM_len n.natAbs (by omega)
  split
  · rw [List.length_cons]; omega
  · omega
theorem tmod_abs (n : Int) : (n.tmod 65536).natAbs = n.natAbs % 65536 := by
  rcases Int.natAbs_eq n with h | h
  · rw [h, Int.natAbs_natCast]; rfl
  · rw [h, Int.natAbs_neg, Int.natAbs_natCast, Int.neg_tmod, Int.natAbs_neg]; rfl
end Go.Proofs.YtpellcdggaeppaaGreatDoor.Pob
end
