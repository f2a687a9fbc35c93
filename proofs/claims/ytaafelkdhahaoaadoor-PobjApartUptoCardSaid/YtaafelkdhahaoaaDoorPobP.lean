/- The reference's Print and PrintReal. Its condition: a number that fits. -/
import Derived.Test.YtaafelkdhahaoaaDoorPobF
namespace Go.Proofs.YtaafelkdhahaoaaDoor.Pob
open Go.ChangeShapes Go.WideShapes Go.RowKit Go.Shelf
set_option linter.unusedVariables false
set_option linter.unusedSimpArgs false

theorem rprint_calls (n : Int) (h1 : -2147483648 ≤ n) (h2 : n ≤ 2147483647) (w : World) : Calls Tryd.prog 45 #[.int .i64 n] w fun e w' => e = .returned (.string ⟨(prP n).toArray⟩) ∧ Up w w' := by
  by_cases hn : n < 0
  · have e : n = -((n.natAbs : Nat) : Int) := by omega
    have e2 : prP n = [45] ++ prM n.natAbs := by unfold prP; rw [if_pos hn]; rfl
    rw [e2]
    have := rprint_neg n.natAbs (by omega) (by omega) (by rw [← e]; simp [h1, h2]) w
    rw [← e] at this
    exact this
  · have e : n = ((n.natAbs : Nat) : Int) := by omega
    have e2 : prP n = [] ++ prM n.natAbs := by unfold prP; rw [if_neg hn]; rfl
    rw [e2]
    have := rprint_pos n.natAbs (by omega) (by rw [← e]; simp [h1, h2]) w
    rw [← e] at this
    exact this
/-- a number with a point in any case -/
def prR (n : Int) : List UInt8 := if n.natAbs % 65536 = 0 then prP n ++ [46, 48] else prP n
theorem prP_len (n : Int) (h1 : -2147483648 ≤ n) (h2 : n ≤ 2147483647) : (prP n).length ≤ 100001 := by
  unfold prP
  have := prM_len n.natAbs (by omega)
  split
  · rw [List.length_cons]; omega
  · omega
theorem tmod_abs (n : Int) : (n.tmod 65536).natAbs = n.natAbs % 65536 := by
  rcases Int.natAbs_eq n with h | h
  · rw [h, Int.natAbs_natCast]; rfl
  · rw [h, Int.natAbs_neg, Int.natAbs_natCast, Int.neg_tmod, Int.natAbs_neg]; rfl
set_option maxRecDepth 8000 in
theorem rprintReal_calls (n : Int) (h1 : -2147483648 ≤ n) (h2 : n ≤ 2147483647) (w : World) : Calls Tryd.prog 21 #[.int .i64 n] w fun e w' => e = .returned (.string ⟨(prR n).toArray⟩) ∧ Up w w' := by
  have HF := Lib.hid (fun W => rfits_pob n true (by simp [h1, h2]) W)
  obtain ⟨P, hP⟩ : ∃ P, prP n = P := ⟨_, rfl⟩
  have HP : Hid (∀ W, Calls Tryd.prog 45 #[.int .i64 n] W fun e w' => e = .returned (.string ⟨P.toArray⟩) ∧ Up W w') := Lib.hid (fun W => by rw [← hP]; exact rprint_calls n h1 h2 W)
  have pl : P.length ≤ 100001 := by rw [← hP]; exact prP_len n h1 h2
  obtain ⟨X, hX⟩ : ∃ X, prR n = X := ⟨_, rfl⟩
  rw [hX]
  have HX := Lib.hid (show X = if n.natAbs % 65536 = 0 then P ++ [46, 48] else P by rw [← hX, ← hP]; rfl)
  have HST : Hid ((⟨P.toArray⟩ : ByteArray) ++ ⟨#[46, 48]⟩ = ⟨(P ++ [46, 48]).toArray⟩) := Lib.hid (str_app P [46, 48])
  clear hP hX
  by_cases hz : n.natAbs % 65536 = 0
  · have HE := Lib.hid (show X = P ++ [46, 48] by rw [HX.out, if_pos hz])
    have t1 : (n.tmod 65536 == 0) = true := by
      have : n.tmod 65536 = 0 := by have := tmod_abs n; omega
      simp [this]
    by_cases hn : 0 ≤ n
    · have t2 : (n % 65536 == 0) = true := by
        have : n % 65536 = 0 := by omega
        simp [this]
      clear hz
      go_enter Tryd.func21, Tryd.ntmps21
      go_wp2_with (first
        | (go_at_call 36; ((with_reducible refine (HF.out _).mono ?_); rintro e w1 ⟨rfl, rfl⟩))
        | (go_at_call 45; ((with_reducible refine (HP.out _).mono ?_); rintro e w2 ⟨rfl, hu2⟩)))
      go_ret
      exact ⟨by rw [HE.out, ← HST.out]; rfl, by (repeat' (first | (with_reducible exact Up.refl _) | (with_reducible assumption) | (with_reducible refine Up.alloc ?_ _) | (with_reducible refine Up.drew ?_) | (with_reducible refine Up.drewN ?_ _) | (with_reducible refine Up.setCell ?_ ?_ _) | (with_reducible refine Up.call ?_ (by with_reducible assumption)) | go_size))⟩
    · clear hz
      go_enter Tryd.func21, Tryd.ntmps21
      go_wp2_with (first
        | (go_at_call 36; ((with_reducible refine (HF.out _).mono ?_); rintro e w1 ⟨rfl, rfl⟩))
        | (go_at_call 45; ((with_reducible refine (HP.out _).mono ?_); rintro e w2 ⟨rfl, hu2⟩)))
      go_ret
      exact ⟨by rw [HE.out, ← HST.out]; rfl, by (repeat' (first | (with_reducible exact Up.refl _) | (with_reducible assumption) | (with_reducible refine Up.alloc ?_ _) | (with_reducible refine Up.drew ?_) | (with_reducible refine Up.drewN ?_ _) | (with_reducible refine Up.setCell ?_ ?_ _) | (with_reducible refine Up.call ?_ (by with_reducible assumption)) | go_size))⟩
  · have HE := Lib.hid (show X = P by rw [HX.out, if_neg hz])
    have t1 : (n.tmod 65536 == 0) = false := by
      have : n.tmod 65536 ≠ 0 := by have := tmod_abs n; omega
      simp [this]
    by_cases hn : 0 ≤ n
    · have t2 : (n % 65536 == 0) = false := by
        have : n % 65536 ≠ 0 := by omega
        simp [this]
      clear hz
      go_enter Tryd.func21, Tryd.ntmps21
      go_wp2_with (first
        | (go_at_call 36; ((with_reducible refine (HF.out _).mono ?_); rintro e w1 ⟨rfl, rfl⟩))
        | (go_at_call 45; ((with_reducible refine (HP.out _).mono ?_); rintro e w2 ⟨rfl, hu2⟩)))
      go_ret
      exact ⟨by rw [HE.out]; rfl, by (repeat' (first | (with_reducible exact Up.refl _) | (with_reducible assumption) | (with_reducible refine Up.alloc ?_ _) | (with_reducible refine Up.drew ?_) | (with_reducible refine Up.drewN ?_ _) | (with_reducible refine Up.setCell ?_ ?_ _) | (with_reducible refine Up.call ?_ (by with_reducible assumption)) | go_size))⟩
    · clear hz
      go_enter Tryd.func21, Tryd.ntmps21
      go_wp2_with (first
        | (go_at_call 36; ((with_reducible refine (HF.out _).mono ?_); rintro e w1 ⟨rfl, rfl⟩))
        | (go_at_call 45; ((with_reducible refine (HP.out _).mono ?_); rintro e w2 ⟨rfl, hu2⟩)))
      go_ret
      exact ⟨by rw [HE.out]; rfl, by (repeat' (first | (with_reducible exact Up.refl _) | (with_reducible assumption) | (with_reducible refine Up.alloc ?_ _) | (with_reducible refine Up.drew ?_) | (with_reducible refine Up.drewN ?_ _) | (with_reducible refine Up.setCell ?_ ?_ _) | (with_reducible refine Up.call ?_ (by with_reducible assumption)) | go_size))⟩

end Go.Proofs.YtaafelkdhahaoaaDoor.Pob
