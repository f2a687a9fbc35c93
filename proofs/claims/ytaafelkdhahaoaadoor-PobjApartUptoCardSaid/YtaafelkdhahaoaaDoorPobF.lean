/- Fractions as texts; the reference's Print and PrintReal. Its condition: a number that fits. -/
import Derived.Test.YtaafelkdhahaoaaDoorPobU
import Derived.Test.YtaafelkdhahaoaaDoorPobR
namespace Go.Proofs.YtaafelkdhahaoaaDoor.Pob
open Go.ChangeShapes Go.WideShapes Go.RowKit Go.Shelf
set_option linter.unusedVariables false
set_option linter.unusedSimpArgs false


/-- how far a fraction's digits may go on -/
def meas (f : Nat) : Nat := 65536 / Nat.gcd f 65536
def chk : Nat → Bool
  | 0 => true
  | n + 1 => (n == 0 || Nat.blt (meas (n * 10 % 65536)) (meas n)) && chk n
set_option maxRecDepth 1000000 in
theorem chk_all : chk 65536 = true := by decide +kernel
theorem chk_at : ∀ N n, chk N = true → n < N → 0 < n → meas (n * 10 % 65536) < meas n
  | 0, n, _, h, _ => absurd h (Nat.not_lt_zero _)
  | N + 1, n, hc, h, h0 => by
    simp only [chk, Bool.and_eq_true, Bool.or_eq_true, beq_iff_eq] at hc
    by_cases e : n = N
    · subst e
      rcases hc.1 with h1 | h1
      · omega
      · simpa [Nat.blt_eq] using h1
    · exact chk_at N n hc.2 (by omega) h0
theorem meas_lt {f : Nat} (h : 0 < f ∧ f < 65536) : meas (f * 10 % 65536) < meas f := chk_at 65536 f chk_all h.2 h.1
/-- the digits behind the point -/
def fracL (f : Nat) : List UInt8 := if h : 0 < f ∧ f < 65536 then UInt8.ofNat (48 + f * 10 / 65536) :: fracL (f * 10 % 65536) else []
termination_by meas f
decreasing_by exact meas_lt h
theorem fracL_zero : fracL 0 = [] := by rw [fracL, dif_neg (by omega)]
theorem fracL_pos {f : Nat} (h : 0 < f ∧ f < 65536) : fracL f = UInt8.ofNat (48 + f * 10 / 65536) :: fracL (f * 10 % 65536) := by rw [fracL, dif_pos h]
theorem meas_le (f : Nat) : meas f ≤ 65536 := Nat.div_le_self _ _
theorem fracL_len : ∀ (k f : Nat), meas f ≤ k → (fracL f).length ≤ k
  | 0, f, h => by
    by_cases h1 : 0 < f ∧ f < 65536
    · have := meas_lt h1; omega
    · rw [fracL, dif_neg h1]; simp
  | k + 1, f, h => by
    by_cases h1 : 0 < f ∧ f < 65536
    · rw [fracL_pos h1, List.length_cons]
      have := fracL_len k (f * 10 % 65536) (by have := meas_lt h1; omega)
      omega
    · rw [fracL, dif_neg h1]; simp
def fracP (r : Nat) : List UInt8 := if r = 0 then [] else 46 :: fracL r
/-- a number with its digits behind the point -/
def prM (m : Nat) : List UInt8 := decL (m / 65536) ++ fracP (m % 65536)
def prP (n : Int) : List UInt8 := if n < 0 then 45 :: prM n.natAbs else prM n.natAbs
theorem prM_len (m : Nat) (h : m < 10000000000) : (prM m).length ≤ 100000 := by
  unfold prM fracP
  have h1 := decL_len (m / 65536) (by omega)
  have h2 := fracL_len 65536 (m % 65536) (meas_le _)
  rw [List.length_append]
  split
  · simp; omega
  · rw [List.length_cons]; omega

set_option maxRecDepth 8000 in
set_option maxHeartbeats 2000000 in
theorem rprint_pos (m : Nat) (hm : m ≤ 2147483648) (hf : (decide (-2147483648 ≤ (m : Int)) && decide ((m : Int) ≤ 2147483647)) = true) (w : World) : Calls Tryd.prog 45 #[.int .i64 (m : Int)] w fun e w' => e = .returned (.string ⟨([] ++ prM m).toArray⟩) ∧ Up w w' := by
  have HF := Lib.hid (fun W => rfits_pob (m : Int) true hf W)
  obtain ⟨D, hD⟩ : ∃ D, decL (m / 65536) = D := ⟨_, rfl⟩
  obtain ⟨R, hR⟩ : ∃ R : Nat, m % 65536 = R := ⟨_, rfl⟩
  obtain ⟨X, hX⟩ : ∃ X, [] ++ prM m = X := ⟨_, rfl⟩
  have HX := Lib.hid (show X = [] ++ (D ++ fracP R) by rw [← hX, ← hD, ← hR]; rfl)
  have HXL := Lib.hid (show X.length ≤ 100001 by rw [← hX, List.length_append]; have := prM_len m (by omega); simp; omega)
  have dl : D.length ≤ 100 := by rw [← hD]; exact decL_len _ (by omega)
  obtain ⟨M, hM⟩ : ∃ M : Int, (m : Int) = M := ⟨_, rfl⟩
  have HQ : Hid (∀ W, Calls Tryd.prog 20 #[.int .i64 (M / 65536)] W fun e w' => e = .returned (.string ⟨D.toArray⟩) ∧ Up W w') := Lib.hid (fun W => by rw [← hD, ← hM, show (m : Int) / 65536 = ((m / 65536 : Nat) : Int) by omega]; exact dec_nat _ (by omega) W)
  have HRM := Lib.hid (show M % 65536 = (R : Int) by omega)
  have rl : R < 65536 := by omega
  rw [hM] at HF ⊢
  rw [hX]
  have g1 : 0 ≤ M := by omega
  have g2 : M ≤ 2147483648 := by omega
  obtain ⟨mf, HMF⟩ : ∃ mf : Nat → Nat, Hid (∀ f, 0 < f ∧ f < 65536 → mf (f * 10 % 65536) < mf f) := ⟨meas, Lib.hid (fun f h => meas_lt h)⟩
  clear hD hR hX hM hm hf 
  have SL0 : Hid ((⟨#[]⟩ : ByteArray) = ⟨([] : List UInt8).toArray⟩) := Lib.hid rfl
  by_cases hz : R = 0
  · have t0 : decide (0 < M % 65536) = false := decide_eq_false (by have := HRM.out; omega)
    subst hz
    have HE := Lib.hid (show X = [] ++ D by rw [HX.out]; simp [fracP])
    go_enter Tryd.func45, Tryd.ntmps45
    go_wp2_with (first | (go_at_call 36; ((with_reducible refine (HF.out _).mono ?_); rintro e w1 ⟨rfl, rfl⟩)) | (go_at_call 20; ((with_reducible refine (HQ.out _).mono ?_); rintro e w2 ⟨rfl, hu2⟩)))
    go_loop [3, 4] (fun s3 s4 => ∃ S : ByteArray, s3 = .string S ∧ s4 = .int .i64 (M % 65536) ∧ Hid (S = ⟨X.toArray⟩)) (fun _ _ => 0)
    case atStart => exact ⟨_, rfl, rfl, Lib.hid (by rw [HE.out]; first | rfl | exact str_app [] D)⟩
    case round =>
      obtain ⟨S, rfl, rfl, HS⟩ := hrel
      go_wp2
      go_ret
      exact ⟨by rw [← HS.out]; rfl, by (repeat' (first | (with_reducible exact Up.refl _) | (with_reducible assumption) | (with_reducible refine Up.alloc ?_ _) | (with_reducible refine Up.drew ?_) | (with_reducible refine Up.drewN ?_ _) | (with_reducible refine Up.setCell ?_ ?_ _) | (with_reducible refine Up.call ?_ (by with_reducible assumption)) | go_size))⟩
  · have hz0 : 0 < R := by omega
    have HE := Lib.hid (show X = ([] ++ D ++ [46]) ++ fracL R by rw [HX.out]; simp [fracP, hz])
    have d3 : decide (0 < M % 65536) = true := decide_eq_true (by have := HRM.out; omega)
    clear hz
    go_enter Tryd.func45, Tryd.ntmps45
    go_wp2_with (first | (go_at_call 36; ((with_reducible refine (HF.out _).mono ?_); rintro e w1 ⟨rfl, rfl⟩)) | (go_at_call 20; ((with_reducible refine (HQ.out _).mono ?_); rintro e w2 ⟨rfl, hu2⟩)))
    go_loopw [3, 4] (fun s3 s4 wr => ∃ (f : Nat) (F : Int) (S : ByteArray) (P : List UInt8), s3 = .string S ∧ s4 = .int .i64 F ∧ Hid ((f : Int) = F) ∧ Hid (f < 65536) ∧ Hid (S = ⟨P.toArray⟩) ∧ Hid (X = P ++ fracL f) ∧ Hid (Up w wr)) (fun _ s4 _ => mf (intOf s4).toNat)
    case atStart => exact ⟨R, M % 65536, _, [] ++ D ++ [46], rfl, rfl, Lib.hid HRM.out.symm, Lib.hid rl, Lib.hid (by exact (congrArg (· ++ (⟨#[46]⟩ : ByteArray)) (str_app [] D)).trans (str_app ([] ++ D) [46])), HE, Lib.hid (by (repeat' (first | (with_reducible exact Up.refl _) | (with_reducible assumption) | (with_reducible refine Up.alloc ?_ _) | (with_reducible refine Up.drew ?_) | (with_reducible refine Up.drewN ?_ _) | (with_reducible refine Up.setCell ?_ ?_ _) | (with_reducible refine Up.call ?_ (by with_reducible assumption)) | go_size)))⟩
    case round =>
      obtain ⟨f, F, S, P, rfl, rfl, HFF, HFL, HS, HXP, HUP⟩ := hrel
      have hss : S.size ≤ 100001 := by
        rw [HS.out]
        show P.toArray.size ≤ 100001
        have h1 := HXL.out
        rw [HXP.out, List.length_append] at h1
        simp; omega
      have g3 : 0 ≤ F := by have := HFF.out; omega
      have g4 : F < 65536 := by have := HFF.out; have := HFL.out; omega
      by_cases h0 : 0 < f
      · have g5 : 0 < F := by have := HFF.out; omega
        have HM2 := Lib.hid (HMF.out f ⟨h0, HFL.out⟩)
        have HD2 : Hid (∀ W, Calls Tryd.prog 20 #[.int .i64 (F * 10 / 65536)] W fun e w' => e = .returned (.string ⟨#[UInt8.ofNat (48 + f * 10 / 65536)]⟩) ∧ Up W w') := Lib.hid (fun W => by
          have hd := dec_nat (f * 10 / 65536) (by have := HFL.out; omega) W
          rw [decL_small (by have := HFL.out; omega)] at hd
          rw [show F * 10 / 65536 = ((f * 10 / 65536 : Nat) : Int) by have := HFF.out; omega]
          exact hd)
        obtain ⟨c, hc⟩ : ∃ c, UInt8.ofNat (48 + f * 10 / 65536) = c := ⟨_, rfl⟩
        have HXP2 := Lib.hid (show X = (P ++ [c]) ++ fracL (f * 10 % 65536) by rw [HXP.out, fracL_pos ⟨h0, HFL.out⟩, hc]; simp)
        rw [hc] at HD2
        have HQ2 := Lib.hid (show ((f * 10 % 65536 : Nat) : Int) = F * 10 % 65536 by have := HFF.out; omega)
        clear hc h0
        go_wp2_with (go_at_call 20; ((with_reducible refine (HD2.out _).mono ?_); rintro e w3 ⟨rfl, hu3⟩))
        go_roundw
        case rel => exact ⟨f * 10 % 65536, F * 10 % 65536, _, P ++ [c], rfl, rfl, HQ2, Lib.hid (by omega), Lib.hid (by rw [HS.out]; exact str_app P [c]), HXP2, Lib.hid (HUP.out.call hu3)⟩
        case measure =>
          have e1 : (F * 10 % 65536).toNat = f * 10 % 65536 := by rw [← HQ2.out]; exact Int.toNat_natCast _
          have e2 : F.toNat = f := by rw [← HFF.out]; exact Int.toNat_natCast _
          simp only [intOf]
          rw [e1, e2]
          exact HM2.out
      · have g5 : F = 0 := by have := HFF.out; omega
        obtain rfl : f = 0 := by omega
        have HXP2 := Lib.hid (show X = P by rw [HXP.out, fracL_zero, List.append_nil])
        subst g5
        go_wp2
        go_ret
        exact ⟨by rw [HXP2.out, ← HS.out]; rfl, HUP.out⟩
set_option maxRecDepth 8000 in
set_option maxHeartbeats 2000000 in
theorem rprint_neg (m : Nat) (h0 : 0 < m) (hm : m ≤ 2147483648) (hf : (decide (-2147483648 ≤ (-m : Int)) && decide ((-m : Int) ≤ 2147483647)) = true) (w : World) : Calls Tryd.prog 45 #[.int .i64 (-m : Int)] w fun e w' => e = .returned (.string ⟨([45] ++ prM m).toArray⟩) ∧ Up w w' := by
  have HF := Lib.hid (fun W => rfits_pob (-m : Int) true hf W)
  obtain ⟨D, hD⟩ : ∃ D, decL (m / 65536) = D := ⟨_, rfl⟩
  obtain ⟨R, hR⟩ : ∃ R : Nat, m % 65536 = R := ⟨_, rfl⟩
  obtain ⟨X, hX⟩ : ∃ X, [45] ++ prM m = X := ⟨_, rfl⟩
  have HX := Lib.hid (show X = [45] ++ (D ++ fracP R) by rw [← hX, ← hD, ← hR]; rfl)
  have HXL := Lib.hid (show X.length ≤ 100001 by rw [← hX, List.length_append]; have := prM_len m (by omega); simp; omega)
  have dl : D.length ≤ 100 := by rw [← hD]; exact decL_len _ (by omega)
  obtain ⟨M, hM⟩ : ∃ M : Int, (m : Int) = M := ⟨_, rfl⟩
  have HQ : Hid (∀ W, Calls Tryd.prog 20 #[.int .i64 (M / 65536)] W fun e w' => e = .returned (.string ⟨D.toArray⟩) ∧ Up W w') := Lib.hid (fun W => by rw [← hD, ← hM, show (m : Int) / 65536 = ((m / 65536 : Nat) : Int) by omega]; exact dec_nat _ (by omega) W)
  have HRM := Lib.hid (show M % 65536 = (R : Int) by omega)
  have rl : R < 65536 := by omega
  rw [hM] at HF ⊢
  rw [hX]
  have g1 : 1 ≤ M := by omega
  have g2 : M ≤ 2147483648 := by omega
  obtain ⟨mf, HMF⟩ : ∃ mf : Nat → Nat, Hid (∀ f, 0 < f ∧ f < 65536 → mf (f * 10 % 65536) < mf f) := ⟨meas, Lib.hid (fun f h => meas_lt h)⟩
  clear hD hR hX hM hm hf h0
  have SL0 : Hid ((⟨#[45]⟩ : ByteArray) = ⟨([45] : List UInt8).toArray⟩) := Lib.hid rfl
  by_cases hz : R = 0
  · have t0 : decide (0 < M % 65536) = false := decide_eq_false (by have := HRM.out; omega)
    subst hz
    have HE := Lib.hid (show X = [45] ++ D by rw [HX.out]; simp [fracP])
    go_enter Tryd.func45, Tryd.ntmps45
    go_wp2_with (first | (go_at_call 36; ((with_reducible refine (HF.out _).mono ?_); rintro e w1 ⟨rfl, rfl⟩)) | (go_at_call 20; ((with_reducible refine (HQ.out _).mono ?_); rintro e w2 ⟨rfl, hu2⟩)))
    go_loop [3, 4] (fun s3 s4 => ∃ S : ByteArray, s3 = .string S ∧ s4 = .int .i64 (M % 65536) ∧ Hid (S = ⟨X.toArray⟩)) (fun _ _ => 0)
    case atStart => exact ⟨_, rfl, rfl, Lib.hid (by rw [HE.out]; exact str_app [45] D)⟩
    case round =>
      obtain ⟨S, rfl, rfl, HS⟩ := hrel
      go_wp2
      go_ret
      exact ⟨by rw [← HS.out]; rfl, by (repeat' (first | (with_reducible exact Up.refl _) | (with_reducible assumption) | (with_reducible refine Up.alloc ?_ _) | (with_reducible refine Up.drew ?_) | (with_reducible refine Up.drewN ?_ _) | (with_reducible refine Up.setCell ?_ ?_ _) | (with_reducible refine Up.call ?_ (by with_reducible assumption)) | go_size))⟩
  · have hz0 : 0 < R := by omega
    have HE := Lib.hid (show X = ([45] ++ D ++ [46]) ++ fracL R by rw [HX.out]; simp [fracP, hz])
    have d3 : decide (0 < M % 65536) = true := decide_eq_true (by have := HRM.out; omega)
    clear hz
    go_enter Tryd.func45, Tryd.ntmps45
    go_wp2_with (first | (go_at_call 36; ((with_reducible refine (HF.out _).mono ?_); rintro e w1 ⟨rfl, rfl⟩)) | (go_at_call 20; ((with_reducible refine (HQ.out _).mono ?_); rintro e w2 ⟨rfl, hu2⟩)))
    go_loopw [3, 4] (fun s3 s4 wr => ∃ (f : Nat) (F : Int) (S : ByteArray) (P : List UInt8), s3 = .string S ∧ s4 = .int .i64 F ∧ Hid ((f : Int) = F) ∧ Hid (f < 65536) ∧ Hid (S = ⟨P.toArray⟩) ∧ Hid (X = P ++ fracL f) ∧ Hid (Up w wr)) (fun _ s4 _ => mf (intOf s4).toNat)
    case atStart => exact ⟨R, M % 65536, _, [45] ++ D ++ [46], rfl, rfl, Lib.hid HRM.out.symm, Lib.hid rl, Lib.hid (by exact (congrArg (· ++ (⟨#[46]⟩ : ByteArray)) (str_app [45] D)).trans (str_app ([45] ++ D) [46])), HE, Lib.hid (by (repeat' (first | (with_reducible exact Up.refl _) | (with_reducible assumption) | (with_reducible refine Up.alloc ?_ _) | (with_reducible refine Up.drew ?_) | (with_reducible refine Up.drewN ?_ _) | (with_reducible refine Up.setCell ?_ ?_ _) | (with_reducible refine Up.call ?_ (by with_reducible assumption)) | go_size)))⟩
    case round =>
      obtain ⟨f, F, S, P, rfl, rfl, HFF, HFL, HS, HXP, HUP⟩ := hrel
      have hss : S.size ≤ 100001 := by
        rw [HS.out]
        show P.toArray.size ≤ 100001
        have h1 := HXL.out
        rw [HXP.out, List.length_append] at h1
        simp; omega
      have g3 : 0 ≤ F := by have := HFF.out; omega
      have g4 : F < 65536 := by have := HFF.out; have := HFL.out; omega
      by_cases h0 : 0 < f
      · have g5 : 0 < F := by have := HFF.out; omega
        have HM2 := Lib.hid (HMF.out f ⟨h0, HFL.out⟩)
        have HD2 : Hid (∀ W, Calls Tryd.prog 20 #[.int .i64 (F * 10 / 65536)] W fun e w' => e = .returned (.string ⟨#[UInt8.ofNat (48 + f * 10 / 65536)]⟩) ∧ Up W w') := Lib.hid (fun W => by
          have hd := dec_nat (f * 10 / 65536) (by have := HFL.out; omega) W
          rw [decL_small (by have := HFL.out; omega)] at hd
          rw [show F * 10 / 65536 = ((f * 10 / 65536 : Nat) : Int) by have := HFF.out; omega]
          exact hd)
        obtain ⟨c, hc⟩ : ∃ c, UInt8.ofNat (48 + f * 10 / 65536) = c := ⟨_, rfl⟩
        have HXP2 := Lib.hid (show X = (P ++ [c]) ++ fracL (f * 10 % 65536) by rw [HXP.out, fracL_pos ⟨h0, HFL.out⟩, hc]; simp)
        rw [hc] at HD2
        have HQ2 := Lib.hid (show ((f * 10 % 65536 : Nat) : Int) = F * 10 % 65536 by have := HFF.out; omega)
        clear hc h0
        go_wp2_with (go_at_call 20; ((with_reducible refine (HD2.out _).mono ?_); rintro e w3 ⟨rfl, hu3⟩))
        go_roundw
        case rel => exact ⟨f * 10 % 65536, F * 10 % 65536, _, P ++ [c], rfl, rfl, HQ2, Lib.hid (by omega), Lib.hid (by rw [HS.out]; exact str_app P [c]), HXP2, Lib.hid (HUP.out.call hu3)⟩
        case measure =>
          have e1 : (F * 10 % 65536).toNat = f * 10 % 65536 := by rw [← HQ2.out]; exact Int.toNat_natCast _
          have e2 : F.toNat = f := by rw [← HFF.out]; exact Int.toNat_natCast _
          simp only [intOf]
          rw [e1, e2]
          exact HM2.out
      · have g5 : F = 0 := by have := HFF.out; omega
        obtain rfl : f = 0 := by omega
        have HXP2 := Lib.hid (show X = P by rw [HXP.out, fracL_zero, List.append_nil])
        subst g5
        go_wp2
        go_ret
        exact ⟨by rw [HXP2.out, ← HS.out]; rfl, HUP.out⟩


end Go.Proofs.YtaafelkdhahaoaaDoor.Pob
