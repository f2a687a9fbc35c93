/- Package dec: parts, PrintReal. Its condition: a number that fits. -/
import Derived.Test.YtpellcdggaeppaaGreatDoorGPobB
import Derived.Test.YtpellcdggaeppaaGreatDoorGW
import Derived.Laws.BitsLemmas
namespace Go.Proofs.YtpellcdggaeppaaGreatDoor.Pob
open Go.ChangeShapes Go.WideShapes Go.RowKit Go.Shelf
set_option linter.unusedVariables false
set_option linter.unusedSimpArgs false

theorem and16 (x : Int) (h0 : 0 ≤ x) (h1 : x < 4294967296) : bits .and .i64 x 65535 = x % 65536 := by
  have h := bits_mask .i64 32 (by decide) (fun n h0 h1 => by rw [IntKind.wrap_i64]; omega) 16 (by decide) x h0 (by omega)
  simpa using h
set_option maxRecDepth 8000 in
set_option maxHeartbeats 2000000 in
theorem parts_pos (m : Nat) (hm : m ≤ 2147483648) (hf : (decide (-2147483648 ≤ (m : Int)) && decide ((m : Int) ≤ 2147483647)) = true) (w : World) : Calls Tryz.prog 87 #[.int .i64 (m : Int)] w fun e w' => e = .returned (.tuple #[.string ⟨#[]⟩, .string ⟨(decL (m / 65536)).toArray⟩, .string ⟨(fracL (m % 65536)).toArray⟩]) ∧ Up w w' := by
  have HF := Lib.hid (fun W => fits_pob (m : Int) true hf W)
  obtain ⟨D, hD⟩ : ∃ D, decL (m / 65536) = D := ⟨_, rfl⟩
  obtain ⟨R, hR⟩ : ∃ R : Nat, m % 65536 = R := ⟨_, rfl⟩
  obtain ⟨X, hX⟩ : ∃ X, fracL R = X := ⟨_, rfl⟩
  have HX := Lib.hid hX.symm
  have HXL := Lib.hid (show X.length ≤ 65536 by rw [← hX]; exact fracL_len _ _ (meas_le _))
  have dl : D.length ≤ 100 := by rw [← hD]; exact decL_len _ (by omega)
  obtain ⟨M, hM⟩ : ∃ M : Int, (m : Int) = M := ⟨_, rfl⟩
  have HQ : Hid (∀ W, Calls Tryz.prog 126 #[.int .i64 (M / 65536)] W fun e w' => e = .returned (.string ⟨D.toArray⟩) ∧ W = w') := Lib.hid (fun W => by rw [← hD, ← hM, show (m : Int) / 65536 = ((m / 65536 : Nat) : Int) by omega]; exact digits_calls _ W (by omega))
  have HRM := Lib.hid (show M % 65536 = (R : Int) by omega)
  have rl : R < 65536 := by omega
  rw [hM] at HF ⊢
  rw [hR, hX, hD]
  have g1 : 0 ≤ M := by omega
  have g2 : M ≤ 2147483648 := by omega
  have a1 := and16 M (by omega) (by omega)
  obtain ⟨mf, HMF⟩ : ∃ mf : Nat → Nat, Hid (∀ f, 0 < f ∧ f < 65536 → mf (f * 10 % 65536) < mf f) := ⟨meas, Lib.hid (fun f h => meas_lt h)⟩
  clear hD hR hX hM hm hf
  have HB := Lib.hid (Lib.fresh_isBuilder 171 5 w)
  go_enter Tryz.func87, Tryz.ntmps87
  go_wp2_with (first | (go_at_call 111; ((with_reducible refine (HF.out _).mono ?_); rintro e w1 ⟨rfl, rfl⟩)))
  go_loopw [6] (fun s6 wr => ∃ (f : Nat) (F : Int) (P : List UInt8), s6 = .int .i64 F ∧ Hid ((f : Int) = F) ∧ Hid (f < 65536) ∧ Hid (X = P ++ fracL f) ∧ Hid (IsBld w.heap.size w.heap.size (Lib.byteCells P) wr) ∧ Hid (Up w wr)) (fun s6 _ => mf (intOf s6).toNat)
  case atStart => exact ⟨R, M % 65536, [], by first | rfl | rw [a1], Lib.hid HRM.out.symm, Lib.hid rl, Lib.hid (by rw [HX.out]; rfl), HB, Lib.hid (by (repeat' (first | (with_reducible first | exact Up.refl _ | assumption | refine Up.alloc ?_ _ | refine Up.drew ?_ | refine Up.drewN ?_ _ | refine Up.setCell ?_ ?_ _ | refine Up.call ?_ (by assumption)) | go_size)))⟩
  case round =>
    obtain ⟨f, F, P, rfl, HFF, HFL, HXP, HBL, HUP⟩ := hrel
    have g3 : 0 ≤ F := by have := HFF.out; omega
    have g4 : F < 65536 := by have := HFF.out; have := HFL.out; omega
    have a2 := and16 (F * 10) (by omega) (by omega)
    have zz := HUP.out.size
    by_cases h0 : 0 < f
    · have g5 : 0 < F := by have := HFF.out; omega
      have HM2 := Lib.hid (HMF.out f ⟨h0, HFL.out⟩)
      obtain ⟨c, hc⟩ : ∃ c, UInt8.ofNat (48 + f * 10 / 65536) = c := ⟨_, rfl⟩
      have HXP2 := Lib.hid (show X = (P ++ [c]) ++ fracL (f * 10 % 65536) by rw [HXP.out, fracL_pos ⟨h0, HFL.out⟩, hc]; simp)
      have HCI := Lib.hid (show (c.toNat : Int) = 48 + F * 10 / 65536 by have h8 := HFL.out; rw [← hc, u8_digit _ (by omega)]; have := HFF.out; omega)
      have HQ2 := Lib.hid (show ((f * 10 % 65536 : Nat) : Int) = F * 10 % 65536 by have := HFF.out; omega)
      have HPL := Lib.hid (show P.length ≤ 65536 by have h1 := HXL.out; rw [HXP.out, List.length_append] at h1; omega)
      clear hc h0
      go_wp2_with (go_at_call 125; ((with_reducible rw [← HCI.out]); (with_reducible refine (bldByte_calls w.heap.size w.heap.size (Lib.byteCells P) (c.toNat : Int) _ HBL.out (by rw [Lib.byteCells_length]; have := HPL.out; omega) (by omega)).mono ?_); rintro e w3 ⟨rfl, hI3, hb3⟩; have HI3 := Lib.hid hI3; have HU3 := Lib.hid (show Up w w3 from HUP.out.trans hb3); clear hI3 hb3))
      go_roundw
      case rel => exact ⟨f * 10 % 65536, F * 10 % 65536, P ++ [c], rfl, HQ2, Lib.hid (by omega), HXP2, Lib.hid (by have := HI3.out; rw [show Lib.byteCells (P ++ [c]) = Lib.byteCells P ++ [.int .u8 (c.toNat : Int)] by simp [Lib.byteCells]]; exact this), HU3⟩
      case measure =>
        have e1 : (F * 10 % 65536).toNat = f * 10 % 65536 := by rw [← HQ2.out]; exact Int.toNat_natCast _
        have e2 : F.toNat = f := by rw [← HFF.out]; exact Int.toNat_natCast _
        simp only [intOf]
        rw [e1, e2]
        exact HM2.out
    · have g5 : F = 0 := by have := HFF.out; omega
      obtain rfl : f = 0 := by omega
      have HXP2 := Lib.hid (show X = P by rw [HXP.out, fracL_zero, List.append_nil])
      subst g5
      go_wp2_with (first | (go_at_call 126; ((with_reducible refine (HQ.out _).mono ?_); rintro e w4 ⟨rfl, rfl⟩)) | (go_at_call 127; ((with_reducible refine (Tryz.Builder_String_any w.heap.size w.heap.size P _ HBL.out (by omega)).mono ?_); rintro e w5 ⟨rfl, hb5⟩; have HU5 := Lib.hid (show Up w w5 from HUP.out.trans hb5); clear hb5)))
      go_returns
      exact ⟨by rw [HXP2.out]; rfl, HU5.out⟩
set_option maxRecDepth 8000 in
set_option maxHeartbeats 2000000 in
theorem parts_neg (m : Nat) (h0 : 0 < m) (hm : m ≤ 2147483648) (hf : (decide (-2147483648 ≤ (-m : Int)) && decide ((-m : Int) ≤ 2147483647)) = true) (w : World) : Calls Tryz.prog 87 #[.int .i64 (-m : Int)] w fun e w' => e = .returned (.tuple #[.string ⟨#[45]⟩, .string ⟨(decL (m / 65536)).toArray⟩, .string ⟨(fracL (m % 65536)).toArray⟩]) ∧ Up w w' := by
  have HF := Lib.hid (fun W => fits_pob (-m : Int) true hf W)
  obtain ⟨D, hD⟩ : ∃ D, decL (m / 65536) = D := ⟨_, rfl⟩
  obtain ⟨R, hR⟩ : ∃ R : Nat, m % 65536 = R := ⟨_, rfl⟩
  obtain ⟨X, hX⟩ : ∃ X, fracL R = X := ⟨_, rfl⟩
  have HX := Lib.hid hX.symm
  have HXL := Lib.hid (show X.length ≤ 65536 by rw [← hX]; exact fracL_len _ _ (meas_le _))
  have dl : D.length ≤ 100 := by rw [← hD]; exact decL_len _ (by omega)
  obtain ⟨N, hM⟩ : ∃ N : Int, (-m : Int) = N := ⟨_, rfl⟩
  have HQ : Hid (∀ W, Calls Tryz.prog 126 #[.int .i64 (-N / 65536)] W fun e w' => e = .returned (.string ⟨D.toArray⟩) ∧ W = w') := Lib.hid (fun W => by rw [← hD, show -N / 65536 = ((m / 65536 : Nat) : Int) by omega]; exact digits_calls _ W (by omega))
  have HRM := Lib.hid (show -N % 65536 = (R : Int) by omega)
  have rl : R < 65536 := by omega
  rw [hM] at HF ⊢
  rw [hR, hX, hD]
  have g1 : N ≤ -1 := by omega
  have d1 : decide (N < 0) = true := decide_eq_true (by omega)
  have g2 : -2147483648 ≤ N := by omega
  have a1 := and16 (-N) (by omega) (by omega)
  obtain ⟨mf, HMF⟩ : ∃ mf : Nat → Nat, Hid (∀ f, 0 < f ∧ f < 65536 → mf (f * 10 % 65536) < mf f) := ⟨meas, Lib.hid (fun f h => meas_lt h)⟩
  clear hD hR hX hM hm hf h0
  have HB := Lib.hid (Lib.fresh_isBuilder 171 5 w)
  go_enter Tryz.func87, Tryz.ntmps87
  go_wp2_with (first | (go_at_call 111; ((with_reducible refine (HF.out _).mono ?_); rintro e w1 ⟨rfl, rfl⟩)))
  go_loopw [6] (fun s6 wr => ∃ (f : Nat) (F : Int) (P : List UInt8), s6 = .int .i64 F ∧ Hid ((f : Int) = F) ∧ Hid (f < 65536) ∧ Hid (X = P ++ fracL f) ∧ Hid (IsBld w.heap.size w.heap.size (Lib.byteCells P) wr) ∧ Hid (Up w wr)) (fun s6 _ => mf (intOf s6).toNat)
  case atStart => exact ⟨R, -N % 65536, [], by first | rfl | rw [a1], Lib.hid HRM.out.symm, Lib.hid rl, Lib.hid (by rw [HX.out]; rfl), HB, Lib.hid (by (repeat' (first | (with_reducible first | exact Up.refl _ | assumption | refine Up.alloc ?_ _ | refine Up.drew ?_ | refine Up.drewN ?_ _ | refine Up.setCell ?_ ?_ _ | refine Up.call ?_ (by assumption)) | go_size)))⟩
  case round =>
    obtain ⟨f, F, P, rfl, HFF, HFL, HXP, HBL, HUP⟩ := hrel
    have g3 : 0 ≤ F := by have := HFF.out; omega
    have g4 : F < 65536 := by have := HFF.out; have := HFL.out; omega
    have a2 := and16 (F * 10) (by omega) (by omega)
    have zz := HUP.out.size
    by_cases h0 : 0 < f
    · have g5 : 0 < F := by have := HFF.out; omega
      have HM2 := Lib.hid (HMF.out f ⟨h0, HFL.out⟩)
      obtain ⟨c, hc⟩ : ∃ c, UInt8.ofNat (48 + f * 10 / 65536) = c := ⟨_, rfl⟩
      have HXP2 := Lib.hid (show X = (P ++ [c]) ++ fracL (f * 10 % 65536) by rw [HXP.out, fracL_pos ⟨h0, HFL.out⟩, hc]; simp)
      have HCI := Lib.hid (show (c.toNat : Int) = 48 + F * 10 / 65536 by have h8 := HFL.out; rw [← hc, u8_digit _ (by omega)]; have := HFF.out; omega)
      have HQ2 := Lib.hid (show ((f * 10 % 65536 : Nat) : Int) = F * 10 % 65536 by have := HFF.out; omega)
      have HPL := Lib.hid (show P.length ≤ 65536 by have h1 := HXL.out; rw [HXP.out, List.length_append] at h1; omega)
      clear hc h0
      go_wp2_with (go_at_call 125; ((with_reducible rw [← HCI.out]); (with_reducible refine (bldByte_calls w.heap.size w.heap.size (Lib.byteCells P) (c.toNat : Int) _ HBL.out (by rw [Lib.byteCells_length]; have := HPL.out; omega) (by omega)).mono ?_); rintro e w3 ⟨rfl, hI3, hb3⟩; have HI3 := Lib.hid hI3; have HU3 := Lib.hid (show Up w w3 from HUP.out.trans hb3); clear hI3 hb3))
      go_roundw
      case rel => exact ⟨f * 10 % 65536, F * 10 % 65536, P ++ [c], rfl, HQ2, Lib.hid (by omega), HXP2, Lib.hid (by have := HI3.out; rw [show Lib.byteCells (P ++ [c]) = Lib.byteCells P ++ [.int .u8 (c.toNat : Int)] by simp [Lib.byteCells]]; exact this), HU3⟩
      case measure =>
        have e1 : (F * 10 % 65536).toNat = f * 10 % 65536 := by rw [← HQ2.out]; exact Int.toNat_natCast _
        have e2 : F.toNat = f := by rw [← HFF.out]; exact Int.toNat_natCast _
        simp only [intOf]
        rw [e1, e2]
        exact HM2.out
    · have g5 : F = 0 := by have := HFF.out; omega
      obtain rfl : f = 0 := by omega
      have HXP2 := Lib.hid (show X = P by rw [HXP.out, fracL_zero, List.append_nil])
      subst g5
      go_wp2_with (first | (go_at_call 126; ((with_reducible refine (HQ.out _).mono ?_); rintro e w4 ⟨rfl, rfl⟩)) | (go_at_call 127; ((with_reducible refine (Tryz.Builder_String_any w.heap.size w.heap.size P _ HBL.out (by omega)).mono ?_); rintro e w5 ⟨rfl, hb5⟩; have HU5 := Lib.hid (show Up w w5 from HUP.out.trans hb5); clear hb5)))
      go_returns
      exact ⟨by rw [HXP2.out]; rfl, HU5.out⟩
theorem parts_calls (n : Int) (h1 : -2147483648 ≤ n) (h2 : n ≤ 2147483647) (w : World) : Calls Tryz.prog 87 #[.int .i64 n] w fun e w' => e = .returned (.tuple #[.string ⟨(if n < 0 then [45] else [] : List UInt8).toArray⟩, .string ⟨(decL (n.natAbs / 65536)).toArray⟩, .string ⟨(fracL (n.natAbs % 65536)).toArray⟩]) ∧ Up w w' := by
  by_cases hn : n < 0
  · have e : n = -((n.natAbs : Nat) : Int) := by omega
    rw [if_pos hn]
    have := parts_neg n.natAbs (by omega) (by omega) (by rw [← e]; simp [h1, h2]) w
    rw [← e] at this
    exact this
  · have e : n = ((n.natAbs : Nat) : Int) := by omega
    rw [if_neg hn]
    have := parts_pos n.natAbs (by omega) (by rw [← e]; simp [h1, h2]) w
    rw [← e] at this
    exact this
theorem decL_ne (n : Nat) : decL n ≠ [] := by
  by_cases h : n < 10
  · rw [decL_small h]; simp
  · rw [decL_big h]; simp
theorem fracL_nil {r : Nat} (h : r < 65536) : fracL r = [] ↔ r = 0 := by
  by_cases h0 : 0 < r
  · rw [fracL_pos ⟨h0, h⟩]; simp; omega
  · obtain rfl : r = 0 := by omega
    simp [fracL_zero]
set_option maxRecDepth 8000 in
theorem printReal_calls (n : Int) (h1 : -2147483648 ≤ n) (h2 : n ≤ 2147483647) (w : World) : Calls Tryz.prog 150 #[.int .i64 n] w fun e w' => e = .returned (.string ⟨(prR n).toArray⟩) ∧ Up w w' := by
  obtain ⟨S, hS⟩ : ∃ S, (if n < 0 then [45] else [] : List UInt8) = S := ⟨_, rfl⟩
  obtain ⟨D, hD⟩ : ∃ D, decL (n.natAbs / 65536) = D := ⟨_, rfl⟩
  obtain ⟨X, hX⟩ : ∃ X, fracL (n.natAbs % 65536) = X := ⟨_, rfl⟩
  have HP : Hid (∀ W, Calls Tryz.prog 87 #[.int .i64 n] W fun e w' => e = .returned (.tuple #[.string ⟨S.toArray⟩, .string ⟨D.toArray⟩, .string ⟨X.toArray⟩]) ∧ Up W w') := Lib.hid (fun W => by rw [← hS, ← hD, ← hX]; exact parts_calls n h1 h2 W)
  have sl : S.length ≤ 1 := by rw [← hS]; split <;> simp
  have dl : D.length ≤ 100 := by rw [← hD]; exact decL_len _ (by omega)
  have xl : X.length ≤ 65536 := by rw [← hX]; exact fracL_len _ _ (meas_le _)
  have hpr : prR n = S ++ D ++ [46] ++ (if X = [] then [48] else X) := by
    unfold prR prP prM fracP
    rw [← hS, ← hD, ← hX]
    by_cases h0 : n.natAbs % 65536 = 0
    · rw [if_pos h0, if_pos h0, if_pos ((fracL_nil (Nat.mod_lt _ (by decide))).2 h0)]
      by_cases hn : n < 0
      · rw [if_pos hn, if_pos hn]; simp
      · rw [if_neg hn, if_neg hn]; simp
    · rw [if_neg h0, if_neg h0, if_neg (fun h => h0 ((fracL_nil (Nat.mod_lt _ (by decide))).1 h))]
      by_cases hn : n < 0
      · rw [if_pos hn, if_pos hn]; simp
      · rw [if_neg hn, if_neg hn]; simp
  obtain ⟨T, hT⟩ : ∃ T, prR n = T := ⟨_, rfl⟩
  rw [hT]
  have HT := Lib.hid (hT.symm.trans hpr)
  clear hS hD hX hpr hT h1 h2
  by_cases hx : X = []
  · have HE := Lib.hid (show T = S ++ D ++ [46] ++ [48] by rw [HT.out, if_pos hx])
    subst hx
    have HST : Hid ((⟨S.toArray⟩ : ByteArray) ++ ⟨D.toArray⟩ ++ ⟨#[46]⟩ ++ ⟨#[48]⟩ = ⟨(S ++ D ++ [46] ++ [48]).toArray⟩) := Lib.hid (by rw [str_app]; exact (congrArg (· ++ (⟨#[48]⟩ : ByteArray)) (str_app (S ++ D) [46])).trans (str_app _ [48]))
    go_enter Tryz.func150, Tryz.ntmps150
    go_wp2_with (go_at_call 87; ((with_reducible refine (HP.out _).mono ?_); rintro e w1 ⟨rfl, hu1⟩))
    go_ret
    exact ⟨by rw [HE.out, ← HST.out]; rfl, by (repeat' (first | (with_reducible first | exact Up.refl _ | assumption | refine Up.alloc ?_ _ | refine Up.drew ?_ | refine Up.drewN ?_ _ | refine Up.setCell ?_ ?_ _ | refine Up.call ?_ (by assumption)) | go_size))⟩
  · have HE := Lib.hid (show T = S ++ D ++ [46] ++ X by rw [HT.out, if_neg hx])
    have HST : Hid ((⟨S.toArray⟩ : ByteArray) ++ ⟨D.toArray⟩ ++ ⟨#[46]⟩ ++ ⟨X.toArray⟩ = ⟨(S ++ D ++ [46] ++ X).toArray⟩) := Lib.hid (by rw [str_app]; exact (congrArg (· ++ (⟨X.toArray⟩ : ByteArray)) (str_app (S ++ D) [46])).trans (str_app _ X))
    have t2 : (X == []) = false := beq_eq_false_iff_ne.2 hx
    have t3 : X.isEmpty = false := by simpa using hx
    clear hx
    go_enter Tryz.func150, Tryz.ntmps150
    go_wp2_with (go_at_call 87; ((with_reducible refine (HP.out _).mono ?_); rintro e w1 ⟨rfl, hu1⟩))
    go_ret
    exact ⟨by rw [HE.out, ← HST.out]; rfl, by (repeat' (first | (with_reducible first | exact Up.refl _ | assumption | refine Up.alloc ?_ _ | refine Up.drew ?_ | refine Up.drewN ?_ _ | refine Up.setCell ?_ ?_ _ | refine Up.call ?_ (by assumption)) | go_size))⟩

end Go.Proofs.YtpellcdggaeppaaGreatDoor.Pob
