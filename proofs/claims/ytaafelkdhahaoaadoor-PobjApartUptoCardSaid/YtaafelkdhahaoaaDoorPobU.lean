/- The reference's Dec. Its condition: a number that is not too great. -/
import Derived.Test.YtaafelkdhahaoaaDoorPobD
namespace Go.Proofs.YtaafelkdhahaoaaDoor.Pob
open Go.ChangeShapes Go.WideShapes Go.RowKit Go.Shelf
set_option linter.unusedVariables false
set_option linter.unusedSimpArgs false


theorem u8_digit (r : Nat) (h : r < 10) : ((UInt8.ofNat (48 + r)).toNat : Int) = 48 + (r : Int) := by
  rw [UInt8.toNat_ofNat']
  omega
set_option maxRecDepth 8000 in
set_option maxHeartbeats 1000000 in
theorem udec_calls (n : Nat) (hn : n < 10000000000) (w : World) : Calls Tryd.prog 44 #[.int .u64 (n : Int)] w fun e w' => e = .returned (.string ⟨(decL n).toArray⟩) ∧ Up w w' := by
  have HN := Lib.hid hn
  obtain ⟨D, hD⟩ : ∃ D, decL n = D := ⟨_, rfl⟩
  rw [hD]
  have HL := Lib.hid (show D.length ≤ 100 by rw [← hD]; exact decL_len n hn)
  obtain ⟨N, hN⟩ : ∃ N : Int, (n : Int) = N := ⟨_, rfl⟩
  rw [hN]
  have HD := Lib.hid hD
  have HNN := Lib.hid hN
  clear hD hN hn
  go_enter Tryd.func44, Tryd.ntmps44
  go_wp2
  go_loopw [0, 3] (fun s0 s3 wr => ∃ (u : Nat) (U : Int) (L : List UInt8), s0 = .int .u64 U ∧ s3 = .string ⟨L.toArray⟩ ∧ Hid ((u : Int) = U) ∧ Hid (u < 10000000000) ∧ Hid (D = decL u ++ L) ∧ Hid (L.length ≤ 100) ∧ Hid (Up w wr)) (fun s0 _ _ => (intOf s0).toNat)
  case atStart => exact ⟨n, N, [], rfl, rfl, HNN, HN, Lib.hid (by rw [HD.out]; simp), Lib.hid (by simp), Lib.hid (Up.refl _)⟩
  case round =>
    obtain ⟨u, U, L, rfl, rfl, HU, HUN, HDU, HLL, HUP⟩ := hrel
    have g1 : 0 ≤ U := by have := HU.out; omega
    have g2 : U < 10000000000 := by have := HU.out; have := HUN.out; omega
    have l1 : L.length ≤ 100 := HLL.out
    obtain ⟨c, hc, hc2⟩ : ∃ c : UInt8, ((c.toNat : Int)) = 48 + U % 10 ∧ c = UInt8.ofNat (48 + u % 10) := ⟨UInt8.ofNat (48 + u % 10), by rw [u8_digit _ (by omega)]; have := HU.out; omega, rfl⟩
    have HC := Lib.hid hc2
    have cv : (convert 24 9 (.slice (some ⟨wr.heap.size, 0, none⟩) 1 1)).run Tryd.prog (wr.alloc (.cells #[.int .u8 (48 + U % 10)] 5)) = .ok (.string ⟨#[c]⟩) (wr.alloc (.cells #[.int .u8 (48 + U % 10)] 5)) := by
      rw [← hc]
      exact BytesAt.conv (l := [c]) ⟨⟨wr.heap.size, 1, rfl, by simp, by decide, by simp, fun j hj => by
        obtain rfl : j = 0 := by simpa using hj
        exact (show Row (wr.alloc (.cells #[.int .u8 (c.toNat : Int)] 5)) wr.heap.size #[.int .u8 (c.toNat : Int)] by (repeat' (first | (with_reducible assumption) | (with_reducible refine Row.at _ _ ?_; (simp; done)) | (with_reducible refine Row.alloc ?_ _) | (with_reducible refine Row.drew ?_) | (with_reducible refine Row.drewN ?_ _) | (with_reducible refine Row.other ?_ (by first | (simp; done) | (simp; omega) | omega) _) | (with_reducible refine Row.up ?_ (by with_reducible assumption)) | (with_reducible refine Row.chg ?_ (by with_reducible assumption) (by first | (simp; done) | (simp; omega)))))).cell 0 rfl⟩⟩
    clear hc hc2
    have HST : Hid ((⟨#[c]⟩ : ByteArray) ++ ⟨L.toArray⟩ = ⟨(c :: L).toArray⟩) := Lib.hid (str_app [c] L)
    by_cases h : u < 10
    · have g3 : U < 10 := by have := HU.out; omega
      have HE := Lib.hid (show D = c :: L by rw [HDU.out, decL_small h, HC.out, Nat.mod_eq_of_lt h]; rfl)
      have g4 : (U / 10 == 0) = true := by simp; omega
      clear h
      go_wp2
      go_ret
      exact ⟨by rw [HE.out, ← HST.out]; rfl, Up.alloc HUP.out _⟩
    · have g3 : 10 ≤ U := by have := HU.out; omega
      have HE := Lib.hid (show D = decL (u / 10) ++ (c :: L) by rw [HDU.out, decL_big h, HC.out, List.append_assoc]; rfl)
      have HLL2 := Lib.hid (show (c :: L).length ≤ 100 by have h1 := HE.out; have h2 := HL.out; rw [h1, List.length_append] at h2; omega)
      have g4 : (U / 10 == 0) = false := by simp; omega
      have HQ := Lib.hid (show ((u / 10 : Nat) : Int) = U / 10 by have := HU.out; omega)
      clear h
      go_wp2
      rw [HST.out]
      go_roundw
      case rel => exact ⟨u / 10, U / 10, c :: L, rfl, rfl, HQ, Lib.hid (by have := HUN.out; omega), HE, HLL2, Lib.hid (Up.alloc HUP.out _)⟩
      case measure => simp only [intOf]; omega
set_option maxRecDepth 8000 in
/-- the decimal numeral of a number -/
theorem dec_nat (n : Nat) (hn : n < 10000000000) (w : World) : Calls Tryd.prog 20 #[.int .i64 (n : Int)] w fun e w' => e = .returned (.string ⟨(decL n).toArray⟩) ∧ Up w w' := by
  have HU := Lib.hid (fun W => udec_calls n hn W)
  obtain ⟨N, hN⟩ : ∃ N : Int, (n : Int) = N := ⟨_, rfl⟩
  have HU2 : Hid (∀ W, Calls Tryd.prog 44 #[.int .u64 N] W fun e w' => e = .returned (.string ⟨(decL n).toArray⟩) ∧ Up W w') := Lib.hid (fun W => by rw [← hN]; exact HU.out W)
  rw [hN]
  have g1 : 0 ≤ N := by omega
  have g2 : N < 10000000000 := by omega
  have d1 : decide (N < 0) = false := decide_eq_false (by omega)
  clear hN hn HU
  go_enter Tryd.func20, Tryd.ntmps20
  go_wp2_with (go_at_call 44; ((with_reducible refine (HU2.out _).mono ?_); rintro e w1 ⟨rfl, hu1⟩))
  go_ret
  exact ⟨rfl, by (repeat' (first | (with_reducible exact Up.refl _) | (with_reducible assumption) | (with_reducible refine Up.alloc ?_ _) | (with_reducible refine Up.drew ?_) | (with_reducible refine Up.drewN ?_ _) | (with_reducible refine Up.setCell ?_ ?_ _) | (with_reducible refine Up.call ?_ (by with_reducible assumption)) | go_size))⟩
set_option maxRecDepth 8000 in
theorem dec_neg (n : Nat) (h0 : 0 < n) (hn : n < 10000000000) (w : World) : Calls Tryd.prog 20 #[.int .i64 (-(n : Int))] w fun e w' => e = .returned (.string ⟨(45 :: decL n).toArray⟩) ∧ Up w w' := by
  have HU := Lib.hid (fun W => udec_calls n hn W)
  obtain ⟨L, hL⟩ : ∃ L, decL n = L := ⟨_, rfl⟩
  have hlen : L.length ≤ 100 := by rw [← hL]; exact decL_len n hn
  obtain ⟨N, hN⟩ : ∃ N : Int, -(n : Int) = N := ⟨_, rfl⟩
  have HU2 : Hid (∀ W, Calls Tryd.prog 44 #[.int .u64 (-(N + 1) + 1)] W fun e w' => e = .returned (.string ⟨L.toArray⟩) ∧ Up W w') := Lib.hid (fun W => by rw [← hL, show -(N + 1) + 1 = (n : Int) by omega]; exact HU.out W)
  rw [hN, hL]
  have g1 : N < 0 := by omega
  have g2 : -10000000000 < N := by omega
  have d1 : decide (N < 0) = true := decide_eq_true (by omega)
  have HST : Hid ((⟨#[45]⟩ : ByteArray) ++ ⟨L.toArray⟩ = ⟨(45 :: L).toArray⟩) := Lib.hid (str_app [45] L)
  clear hN hn HU hL h0
  go_enter Tryd.func20, Tryd.ntmps20
  go_wp2_with (go_at_call 44; ((with_reducible refine (HU2.out _).mono ?_); rintro e w1 ⟨rfl, hu1⟩))
  go_ret
  exact ⟨by rw [← HST.out]; rfl, by (repeat' (first | (with_reducible exact Up.refl _) | (with_reducible assumption) | (with_reducible refine Up.alloc ?_ _) | (with_reducible refine Up.drew ?_) | (with_reducible refine Up.drewN ?_ _) | (with_reducible refine Up.setCell ?_ ?_ _) | (with_reducible refine Up.call ?_ (by with_reducible assumption)) | go_size))⟩

end Go.Proofs.YtaafelkdhahaoaaDoor.Pob
