/- Package dec's digits. Its condition: a number that is not too great. -/
import Derived.Test.YtaafelkdhahaoaaDoorPobL
namespace Go.Proofs.YtaafelkdhahaoaaDoor.Pob
open Go.ChangeShapes Go.WideShapes Go.RowKit Go.Shelf
set_option linter.unusedVariables false
set_option linter.unusedSimpArgs false


/-- the digits of a number that is not below 0 -/
def decL (n : Nat) : List UInt8 := if h : n < 10 then [UInt8.ofNat (48 + n)] else decL (n / 10) ++ [UInt8.ofNat (48 + n % 10)]
termination_by n
decreasing_by omega
theorem decL_small {n : Nat} (h : n < 10) : decL n = [UInt8.ofNat (48 + n)] := by rw [decL, dif_pos h]
theorem decL_big {n : Nat} (h : ¬ n < 10) : decL n = decL (n / 10) ++ [UInt8.ofNat (48 + n % 10)] := by rw [decL, dif_neg h]
theorem str_app (a b : List UInt8) : (⟨a.toArray⟩ : ByteArray) ++ ⟨b.toArray⟩ = ⟨(a ++ b).toArray⟩ := by
  apply ByteArray.ext
  simp
theorem decL_le : ∀ (k n : Nat), n < 10 ^ (k + 1) → (decL n).length ≤ k + 1
  | 0, n, h => by rw [decL_small (by simpa using h)]; simp
  | k + 1, n, h => by
    by_cases h1 : n < 10
    · rw [decL_small h1]; simp
    · rw [decL_big h1, List.length_append, List.length_singleton]
      have := decL_le k (n / 10) (by rw [Nat.div_lt_iff_lt_mul (by decide)]; rw [Nat.pow_succ] at h; exact h)
      omega
theorem decL_len (n : Nat) (h : n < 10000000000) : (decL n).length ≤ 100 := Nat.le_trans (decL_le 9 n (by simpa using h)) (by decide)
theorem utf8_digit (n : Nat) (h : n < 10) : Utf8.encode (48 + (n : Int)) = ⟨#[UInt8.ofNat (48 + n)]⟩ := by
  have h2 : n = 0 ∨ n = 1 ∨ n = 2 ∨ n = 3 ∨ n = 4 ∨ n = 5 ∨ n = 6 ∨ n = 7 ∨ n = 8 ∨ n = 9 := by omega
  rcases h2 with rfl | rfl | rfl | rfl | rfl | rfl | rfl | rfl | rfl | rfl <;> rfl
set_option maxRecDepth 8000 in
theorem digits_small (n : Nat) (L : List UInt8) (w : World) (h : n < 10) (hL : [UInt8.ofNat (48 + n)] = L) : Calls Tryd.prog 61 #[.int .i64 (n : Int)] w fun e w' => e = .returned (.string ⟨L.toArray⟩) ∧ w = w' := by
  have HL := Lib.hid hL
  clear hL
  have H9 := Lib.hid h
  have d1 : decide (n < 10) = true := decide_eq_true h
  go_enter Tryd.func61, Tryd.ntmps61
  go_wp2
  go_ret
  exact ⟨by rw [← HL.out]; exact congrArg (fun x => Ending.returned (Value.string x)) (utf8_digit n H9.out), rfl⟩
set_option maxRecDepth 8000 in
theorem digits_big (n q r : Nat) (L M : List UInt8) (w : World) (hn : n ≤ 1000000000) (h : 10 ≤ n) (hL : L.length ≤ 100) (hM : L ++ [UInt8.ofNat (48 + r)] = M) (hq : n / 10 = q) (hr : n % 10 = r) (ih : ∀ w, Calls Tryd.prog 61 #[.int .i64 (q : Int)] w fun e w' => e = .returned (.string ⟨L.toArray⟩) ∧ w = w') : Calls Tryd.prog 61 #[.int .i64 (n : Int)] w fun e w' => e = .returned (.string ⟨M.toArray⟩) ∧ w = w' := by
  have HM := Lib.hid hM
  clear hM
  have HI := Lib.hid ih
  obtain ⟨N, hN⟩ : ∃ N : Int, (n : Int) = N := ⟨_, rfl⟩
  have HQ := Lib.hid (show N / 10 = (q : Int) by omega)
  have HR := Lib.hid (show N % 10 = (r : Int) by omega)
  have HR9 := Lib.hid (show r < 10 by omega)
  rw [hN]
  have g1 : 10 ≤ N := by omega
  have g2 : N ≤ 1000000000 := by omega
  have d1 : decide (N < 10) = false := decide_eq_false (by omega)
  clear hN hq hr ih h hn
  go_enter Tryd.func61, Tryd.ntmps61
  go_wp2_with (go_at_call 61; ((with_reducible rw [HQ.out]); (with_reducible refine (HI.out _).mono ?_); rintro e w1 ⟨rfl, rfl⟩))
  case isTrue h1 =>
    exfalso
    have h2 : (Utf8.encode (48 + N % 10)).size = 1 := by rw [HR.out, utf8_digit r HR9.out]; rfl
    omega
  go_ret
  refine ⟨?_, rfl⟩
  have h3 : Utf8.encode (48 + N % 10) = ⟨#[UInt8.ofNat (48 + r)]⟩ := by rw [HR.out, utf8_digit r HR9.out]
  show Ending.returned (Value.string ((⟨L.toArray⟩ : ByteArray) ++ Utf8.encode (48 + N % 10))) = _
  rw [h3, ← HM.out, str_app]
theorem digits_calls : ∀ (n : Nat) (w : World), n ≤ 1000000000 → Calls Tryd.prog 61 #[.int .i64 (n : Int)] w fun e w' => e = .returned (.string ⟨(decL n).toArray⟩) ∧ w = w' := by
  intro n
  induction n using Nat.strongRecOn with
  | ind n ih =>
    intro w hn
    by_cases h : n < 10
    · exact digits_small n (decL n) w h (decL_small h).symm
    · exact digits_big n (n / 10) (n % 10) (decL (n / 10)) (decL n) w hn (by omega) (decL_len _ (by omega)) (decL_big h).symm rfl rfl (fun w => ih (n / 10) (by omega) w (by omega))

end Go.Proofs.YtaafelkdhahaoaaDoor.Pob
