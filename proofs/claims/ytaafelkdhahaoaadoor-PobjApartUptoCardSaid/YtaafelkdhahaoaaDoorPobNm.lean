/- The reference's Name. Its condition: a length. -/
import Derived.Test.YtaafelkdhahaoaaDoorPobH
namespace Go.Proofs.YtaafelkdhahaoaaDoor.Pob
open Go.ChangeShapes Go.WideShapes Go.RowKit Go.Shelf
set_option linter.unusedVariables false
set_option linter.unusedSimpArgs false


set_option maxRecDepth 8000 in
set_option maxHeartbeats 4000000 in
theorem rName_calls (l : List UInt8) (hl : l.length ≤ 70000) (w : World) : Calls Tryd.prog 22 #[.string ⟨l.toArray⟩] w fun e w' => e = .returned (.string ⟨(47 :: enc l).toArray⟩) ∧ Up w w' := by
  have IX := Lib.hid (fun (W : World) (j : Nat) (hj : j < l.length) => run_index_list (P := Tryd.prog) W 9 l .i64 j Tryd.underlying9 hj)
  have SX := Lib.hid (fun (W : World) (j : Nat) (hj : j < l.length) => run_slice_list (P := Tryd.prog) W 9 l .i64 .i64 (j : Int) ((j : Int) + 1) Tryd.underlying9 (by omega) (by omega) (by omega))
  go_enter Tryd.func22, Tryd.ntmps22
  go_wp2_with fail
  go_loopw [3, 4] (fun s3 s4 wr => ∃ (k : Nat) (S : ByteArray), k ≤ l.length ∧ s3 = .string S ∧ s4 = .int .i64 k ∧ Hid (S = ⟨(47 :: enc (l.take k)).toArray⟩) ∧ Hid (Up w wr)) (fun _ s4 _ => l.length - (intOf s4).toNat)
  case atStart => exact ⟨0, _, Nat.zero_le _, rfl, rfl, Lib.hid rfl, Lib.hid (Up.refl _)⟩
  case round =>
    obtain ⟨k, S, hk, rfl, rfl, HS, HUP⟩ := hrel
    have hss : S.size ≤ 300000 := by
      rw [HS.out]
      show (47 :: enc (l.take k)).toArray.size ≤ 300000
      have := enc_len (l.take k)
      rw [List.length_take] at this
      simp; omega
    by_cases hlt : k < l.length
    · have d0 : decide (k < l.length) = true := decide_eq_true hlt
      have ik := fun W => IX.out W k hlt
      have sk := fun W => SX.out W k hlt
      obtain ⟨c, hc⟩ : ∃ c, l.getD k 0 = c := ⟨_, rfl⟩
      have hsl : List.take (((k : Int) + 1).toNat - ((k : Int)).toNat) (List.drop ((k : Int)).toNat l) = [c] := by
        rw [show ((k : Int) + 1).toNat - ((k : Int)).toNat = 1 by omega, Int.toNat_natCast, List.drop_eq_getElem_cons hlt, ← hc, List.getD_eq_getElem?_getD, List.getElem?_eq_getElem hlt]
        rfl
      have hst : enc (l.take (k + 1)) = enc (l.take k) ++ encB c := by
        rw [List.take_add_one, List.getElem?_eq_getElem hlt]
        simp only [Option.toList_some, enc_snoc]
        simp [← hc, hlt]
      have HST := Lib.hid hst
      simp only [hc] at ik
      rw [hsl] at sk
      have HX := Lib.hid (fun W => hexa_calls (c.toNat / 16) (c.toNat % 16) (by have := c.toNat_lt; omega) (by omega) (c.toNat : Int) (by omega) W)
      obtain ⟨dv, hdv⟩ : ∃ dv, delimR c = dv := ⟨_, rfl⟩
      have HDL := Lib.hid (fun W => delimG_calls c dv hdv W)
      have HQR := Lib.hid (show quoted c = (decide (c.toNat < 33) || decide (126 < c.toNat) || (c == 35) || dv) by rw [quoted_ref, hdv])
      have hlc := c.toNat_lt
      clear hc hst hdv hsl
      by_cases p1 : c.toNat < 33
      · have HQ := Lib.hid (show quoted c = true by rw [HQR.out]; simp [p1])
        have q1 : decide ((c.toNat : Int) < 33) = true := decide_eq_true (by omega)
        clear p1
        go_wp2_with (first
          | (go_at_call 46; ((with_reducible refine (HX.out _).mono ?_); rintro e w2 ⟨rfl, hu2⟩)))
        go_roundw
        case rel => exact ⟨k + 1, _, by omega, rfl, by go_num, Lib.hid (by rw [HS.out, HST.out]; exact (congrArg (· ++ (⟨#[hexc (c.toNat / 16), hexc (c.toNat % 16)]⟩ : ByteArray)) (str_app (47 :: enc (l.take k)) [35])).trans ((str_app _ [hexc (c.toNat / 16), hexc (c.toNat % 16)]).trans (by simp [encB, HQ.out]))), Lib.hid (HUP.out.call hu2)⟩
        case measure => simp [intOf]; omega
      by_cases p2 : 126 < c.toNat
      · have HQ := Lib.hid (show quoted c = true by rw [HQR.out]; simp [p2])
        have q1 : decide ((c.toNat : Int) < 33) = false := decide_eq_false (by omega)
        have q2 : decide (126 < (c.toNat : Int)) = true := decide_eq_true (by omega)
        clear p1 p2
        go_wp2_with (first
          | (go_at_call 46; ((with_reducible refine (HX.out _).mono ?_); rintro e w2 ⟨rfl, hu2⟩)))
        go_roundw
        case rel => exact ⟨k + 1, _, by omega, rfl, by go_num, Lib.hid (by rw [HS.out, HST.out]; exact (congrArg (· ++ (⟨#[hexc (c.toNat / 16), hexc (c.toNat % 16)]⟩ : ByteArray)) (str_app (47 :: enc (l.take k)) [35])).trans ((str_app _ [hexc (c.toNat / 16), hexc (c.toNat % 16)]).trans (by simp [encB, HQ.out]))), Lib.hid (HUP.out.call hu2)⟩
        case measure => simp [intOf]; omega
      have q1 : decide ((c.toNat : Int) < 33) = false := decide_eq_false (by omega)
      have q2 : decide (126 < (c.toNat : Int)) = false := decide_eq_false (by omega)
      by_cases p3 : c = 35
      · have HQ := Lib.hid (show quoted c = true by rw [HQR.out]; simp [p3])
        have q3 : ((c.toNat : Int) == 35) = true := by subst p3; rfl
        clear p1 p2 p3
        go_wp2_with (first
          | (go_at_call 46; ((with_reducible refine (HX.out _).mono ?_); rintro e w2 ⟨rfl, hu2⟩)))
        go_roundw
        case rel => exact ⟨k + 1, _, by omega, rfl, by go_num, Lib.hid (by rw [HS.out, HST.out]; exact (congrArg (· ++ (⟨#[hexc (c.toNat / 16), hexc (c.toNat % 16)]⟩ : ByteArray)) (str_app (47 :: enc (l.take k)) [35])).trans ((str_app _ [hexc (c.toNat / 16), hexc (c.toNat % 16)]).trans (by simp [encB, HQ.out]))), Lib.hid (HUP.out.call hu2)⟩
        case measure => simp [intOf]; omega
      have q3 := ne_of (k := 35) (z := 35) p3 (by decide) rfl
      cases dv
      · have HQ := Lib.hid (show quoted c = false by rw [HQR.out]; simp [p1, p2, p3])
        clear p1 p2 p3
        go_wp2_with (first
          | (go_at_call 26; ((with_reducible refine (HDL.out _).mono ?_); rintro e w1 ⟨rfl, rfl⟩)))
        go_roundw
        case rel => exact ⟨k + 1, _, by omega, rfl, by go_num, Lib.hid (by rw [HS.out, HST.out]; exact (str_app (47 :: enc (l.take k)) [c]).trans (by simp [encB, HQ.out])), HUP⟩
        case measure => simp [intOf]; omega
      · have HQ := Lib.hid (show quoted c = true by rw [HQR.out]; simp)
        clear p1 p2 p3
        go_wp2_with (first
          | (go_at_call 46; ((with_reducible refine (HX.out _).mono ?_); rintro e w2 ⟨rfl, hu2⟩))
          | (go_at_call 26; ((with_reducible refine (HDL.out _).mono ?_); rintro e w1 ⟨rfl, rfl⟩)))
        go_roundw
        case rel => exact ⟨k + 1, _, by omega, rfl, by go_num, Lib.hid (by rw [HS.out, HST.out]; exact (congrArg (· ++ (⟨#[hexc (c.toNat / 16), hexc (c.toNat % 16)]⟩ : ByteArray)) (str_app (47 :: enc (l.take k)) [35])).trans ((str_app _ [hexc (c.toNat / 16), hexc (c.toNat % 16)]).trans (by simp [encB, HQ.out]))), Lib.hid (HUP.out.call hu2)⟩
        case measure => simp [intOf]; omega
    · have d0 : decide (k < l.length) = false := decide_eq_false hlt
      obtain rfl : k = l.length := by omega
      go_wp2
      go_ret
      exact ⟨by rw [show (47 :: enc l) = 47 :: enc (l.take l.length) by rw [List.take_length], ← HS.out]; rfl, HUP.out⟩

end Go.Proofs.YtaafelkdhahaoaaDoor.Pob
