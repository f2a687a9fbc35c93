/- Sum of package fix: of every list. No condition. -/
import Derived.Test.YtoflafbhfoncmaaDoorFix
import Derived.Test.YtoflafbhfoncmaaDoorSumM
import Derived.Test.YtoflafbhfoncmaaDoorSl
namespace Go.Proofs.YtoflafbhfoncmaaDoor.Fix
open Go.ChangeShapes Go.WideShapes Go.ChangeAt Go.RowKit
open Go.Proofs.YtoflafbhfoncmaaDoor.FixM (fits within rnd rndp add sub mul div sum sumF)
set_option linter.unusedVariables false

theorem sum_calls (v : Value) (zs : List Int) (w : World) (hv : Ints .i64 w v zs) :
    Calls Tryd.prog 72 #[v] w fun e w' => e = .returned (.tuple #[.int .i64 (sum zs).1, .int .i64 (sum zs).2]) ∧ Up w w' := by
  obtain ⟨ao, c, rfl, hlc, hcm, hnone, hsome, hwf⟩ := hv
  have HS := Lib.hid hsome
  have hlen : zs.length ≤ 9223372036854775807 := by omega
  clear hsome hwf hnone hlc
  go_enter Tryd.func72, Tryd.ntmps72
  go_wp2
  go_loopw [4, 10] (fun t i wr => ∃ (k : Nat) (x : Int), k ≤ zs.length ∧ i = .int .i64 k ∧ t = .int .i64 x ∧ Hid (sumF 0 (zs.take k) = (x, 0)) ∧ Up w wr) (fun _ i _ => zs.length - (intOf i).toNat)
  case atStart => exact ⟨0, 0, Nat.zero_le _, rfl, rfl, Lib.hid rfl, Up.refl _⟩
  case round =>
    obtain ⟨k, x, hk, rfl, rfl, HX, hup⟩ := hrel
    by_cases hlt : k < zs.length
    · obtain ⟨b, o, rfl, hbk, hcl⟩ := HS.out (by omega)
      have hcell' : wr.cell? ⟨b, o + k, none⟩ = some (.int .i64 (zs.getD k 0)) := by rw [hup.cells.1 b _ hbk]; exact hcl k hlt
      clear hcl
      have HN : Hid (sumF 0 (zs.take (k + 1)) = if (add x (zs.getD k 0)).2 = 0 then add x (zs.getD k 0) else (0, (add x (zs.getD k 0)).2)) := Lib.hid (by
        rw [List.take_succ_eq_append_getElem hlt, FixM.sumF_append, HX.out]
        simp [List.getD, hlt])
      have HT : Hid ((add x (zs.getD k 0)).2 ≠ 0 → sum zs = (0, (add x (zs.getD k 0)).2)) := Lib.hid (by
        intro h
        have h1 := HN.out
        rw [if_neg h] at h1
        have h2 := FixM.sumF_stays (zs.take (k + 1)) (zs.drop (k + 1)) 0 (by rw [h1]; exact h)
        rw [List.take_append_drop] at h2
        rw [sum, h2, h1])
      generalize zs.getD k 0 = z at *
      by_cases hf : (add x z).2 = 0
      · have HF := Lib.hid hf
        have hf' : ((add x z).2 != 0) = false := by simpa using hf
        clear hf
        go_wp2_with (go_at_call 76; ((with_reducible refine (Fix.add_calls _ _ _).mono ?_); rintro e w1 ⟨rfl, hu1⟩))
        go_roundw
        case rel => exact ⟨k + 1, (add x z).1, by omega, by go_num, rfl, Lib.hid (by rw [HN.out, if_pos HF.out, ← HF.out]), by (repeat' (first | (with_reducible exact Up.refl _) | (with_reducible assumption) | (with_reducible refine Up.alloc ?_ _) | (with_reducible refine Up.drew ?_) | (with_reducible refine Up.drewN ?_ _) | (with_reducible refine Up.setCell ?_ ?_ _) | (with_reducible refine Up.call ?_ (by with_reducible assumption)) | go_size))⟩
        case measure => simp [intOf]; omega
      · have HF := Lib.hid hf
        have hf' : ((add x z).2 != 0) = true := by simpa using hf
        clear hf
        go_wp2_with (go_at_call 76; ((with_reducible refine (Fix.add_calls _ _ _).mono ?_); rintro e w1 ⟨rfl, hu1⟩))
        go_ret2
        exact ⟨by rw [HT.out HF.out]; rfl, by (repeat' (first | (with_reducible exact Up.refl _) | (with_reducible assumption) | (with_reducible refine Up.alloc ?_ _) | (with_reducible refine Up.drew ?_) | (with_reducible refine Up.drewN ?_ _) | (with_reducible refine Up.setCell ?_ ?_ _) | (with_reducible refine Up.call ?_ (by with_reducible assumption)) | go_size))⟩
    · have HE : Hid (sum zs = (x, 0)) := Lib.hid (by rw [← HX.out, List.take_of_length_le (by omega), sum])
      go_wp2
      go_ret2
      exact ⟨by rw [HE.out]; rfl, by (repeat' (first | (with_reducible exact Up.refl _) | (with_reducible assumption) | (with_reducible refine Up.alloc ?_ _) | (with_reducible refine Up.drew ?_) | (with_reducible refine Up.drewN ?_ _) | (with_reducible refine Up.setCell ?_ ?_ _) | (with_reducible refine Up.call ?_ (by with_reducible assumption)) | go_size))⟩



end Go.Proofs.YtoflafbhfoncmaaDoor.Fix
