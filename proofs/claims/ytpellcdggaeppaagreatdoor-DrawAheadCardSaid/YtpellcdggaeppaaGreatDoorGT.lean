/- Package pobj's text of a string. Its condition: lengths that a buffer bears. The reference's Text. Its condition: a length. What an object is as bytes; a bytes.Buffer's writes as lists of bytes. No condition but lengths. Package pobj: pairs of a dictionary. Its condition: how its objects are written; lengths. Package pobj: write of any object. Its condition: a sound object that is not too large. Package pobj: write and Print of any sound object. Its condition: an object that is not too large. -/
import Derived.Test.YtpellcdggaeppaaGreatDoorGN
import Derived.Test.YtpellcdggaeppaaGreatDoorPobX
import Derived.Test.YtpellcdggaeppaaGreatDoorGPobB
import Derived.Test.YtpellcdggaeppaaGreatDoorGPobDp
import Derived.Lib.OthersKept
import Derived.Laws.IdiomCopy
import Derived.Test.YtpellcdggaeppaaGreatDoorGR
section
namespace Go.Proofs.YtpellcdggaeppaaGreatDoor.Pob
open Go.ChangeShapes Go.WideShapes Go.RowKit Go.Shelf
set_option linter.unusedVariables false
set_option linter.unusedSimpArgs false


/-- a string's byte as it is written -/
def txtB (c : UInt8) : List UInt8 := if c = 40 ∨ c = 41 ∨ c = 92 then [92, c] else if c.toNat < 32 ∨ 126 < c.toNat then [92, UInt8.ofNat (48 + c.toNat / 64), UInt8.ofNat (48 + c.toNat / 8 % 8), UInt8.ofNat (48 + c.toNat % 8)] else [c]
def txt (l : List UInt8) : List UInt8 := l.flatMap txtB
theorem txt_snoc (l : List UInt8) (c : UInt8) : txt (l ++ [c]) = txt l ++ txtB c := by simp [txt]
theorem txtB_len (c : UInt8) : (txtB c).length ≤ 4 := by unfold txtB; split <;> (try split) <;> simp
theorem txt_len : ∀ l : List UInt8, (txt l).length ≤ 4 * l.length
  | [] => by simp [txt]
  | c :: l => by
    have := txt_len l
    have := txtB_len c
    rw [show txt (c :: l) = txtB c ++ txt l from rfl, List.length_append, List.length_cons]
    omega
theorem and7 (c : UInt8) : bits BinOp.and IntKind.u8 (c.toNat : Int) 7 = ((c.toNat % 8 : Nat) : Int) := by
  have := all256 (fun c => decide (bits BinOp.and IntKind.u8 (c.toNat : Int) 7 = ((c.toNat % 8 : Nat) : Int))) (by decide +kernel) c
  simpa using this
theorem and78 (c : UInt8) : bits BinOp.and IntKind.u8 ((c.toNat : Int) / 8) 7 = ((c.toNat / 8 % 8 : Nat) : Int) := by
  have := all256 (fun c => decide (bits BinOp.and IntKind.u8 ((c.toNat : Int) / 8) 7 = ((c.toNat / 8 % 8 : Nat) : Int))) (by decide +kernel) c
  simpa using this
theorem cells_app (a b : List UInt8) : Lib.byteCells (a ++ b) = Lib.byteCells a ++ Lib.byteCells b := by simp [Lib.byteCells]
theorem cells4 (c : UInt8) : Lib.byteCells [92, UInt8.ofNat (48 + c.toNat / 64), UInt8.ofNat (48 + c.toNat / 8 % 8), UInt8.ofNat (48 + c.toNat % 8)] = [.int .u8 92, .int .u8 (48 + (c.toNat : Int) / 64), .int .u8 (48 + (c.toNat : Int) / 8 % 8), .int .u8 (48 + (c.toNat : Int) % 8)] := by
  have h := c.toNat_lt
  have e1 : ((UInt8.ofNat (48 + c.toNat / 64)).toNat : Int) = 48 + (c.toNat : Int) / 64 := by rw [UInt8.toNat_ofNat']; omega
  have e2 : ((UInt8.ofNat (48 + c.toNat / 8 % 8)).toNat : Int) = 48 + (c.toNat : Int) / 8 % 8 := by rw [UInt8.toNat_ofNat']; omega
  have e3 : ((UInt8.ofNat (48 + c.toNat % 8)).toNat : Int) = 48 + (c.toNat : Int) % 8 := by rw [UInt8.toNat_ofNat']; omega
  simp only [Lib.byteCells, List.map_cons, List.map_nil]
  rw [e1, e2, e3]
  rfl
set_option maxRecDepth 8000 in
set_option maxHeartbeats 4000000 in
theorem text_calls (B b : Nat) (bs : List UInt8) (l : List UInt8) (w : World) (h : IsBuf B b (Lib.byteCells bs) w) (hBw : B ≤ w.heap.size) (hlim : bs.length + 4 * l.length + 2 ≤ 140737488355328) :
    Calls Tryz.prog 152 #[.pointer (some ⟨b, 0, none⟩), .string ⟨l.toArray⟩] w fun e w' => e = .returned (.tuple #[]) ∧ IsBuf B b (Lib.byteCells (bs ++ 40 :: (txt l ++ [41]))) w' ∧ Below B w w' ∧ Kept 5 b w w' := by
  have hb := Lib.IsBuffer.lt h
  have H := Lib.hid h
  clear h
  have cv := fun W : World => run_bytes_of_string (P := Tryz.prog) W 9 27 5 ⟨l.toArray⟩ Tryz.underlying9 Tryz.underlying27 Tryz.underlying5
  go_enter Tryz.func152, Tryz.ntmps152
  go_wp2_with (go_at_call 118; refine (writeByte_calls B b _ 40 _ H.out hBw (Lib.byteCells_one _) (by rw [Lib.byteCells_length]; omega)).mono ?_; rintro e w1 ⟨rfl, hI1, hb1, hk1⟩; have HI1 := Lib.hid hI1; clear hI1)
  have z1 := hb1.size
  have hlt1 := Lib.IsBuffer.lt HI1.out
  have hS : Scr w1.heap.size l (w1.drew.alloc (.cells (bytesRow ⟨l.toArray⟩ (grownCap w1 l.length 0 5)) 5 ((bytesRow ⟨l.toArray⟩ (grownCap w1 l.length 0 5)).size, (bytesRow ⟨l.toArray⟩ (grownCap w1 l.length 0 5)).size + 1))) := ⟨_, heap_alloc_new w1.drew _⟩
  have hU : Up w1 (w1.drew.alloc (.cells (bytesRow ⟨l.toArray⟩ (grownCap w1 l.length 0 5)) 5 ((bytesRow ⟨l.toArray⟩ (grownCap w1 l.length 0 5)).size, (bytesRow ⟨l.toArray⟩ (grownCap w1 l.length 0 5)).size + 1))) := (Up.drew (Up.refl _)).alloc _
  go_loopw [11] (fun s11 wr => ∃ k : Nat, k ≤ l.length ∧ s11 = .int .i64 k ∧ Hid (IsBuf B b (Lib.byteCells (bs ++ 40 :: txt (l.take k))) wr ∧ Below B w wr ∧ Kept 5 b w wr ∧ Scr w1.heap.size l wr)) (fun s11 _ => l.length - (intOf s11).toNat)
  case atStart => exact ⟨0, Nat.zero_le _, rfl, Lib.hid ⟨by have h9 := Lib.IsBuffer.old HI1.out hU; have e9 : Lib.byteCells (bs ++ 40 :: txt (l.take 0)) = Lib.byteCells bs ++ [Value.int .u8 40] := by simp [Lib.byteCells, txt]
                                                            rw [e9]; exact h9, hb1.trans (hU.mono (Nat.le_trans hBw z1)), hk1.up hU, hS⟩⟩
  case round =>
    obtain ⟨k, hk, rfl, HR⟩ := hrel
    by_cases hlt : k < l.length
    · have y1 : decide (k < l.length) = true := decide_eq_true hlt
      have lc := HR.out.2.2.2.cell k hlt
      have lg := HR.out.2.2.2.lt
      have zw := HR.out.2.1.size
      generalize hc : l.getD k 0 = c at lc
      have hlc := c.toNat_lt
      have hst : txt (l.take (k + 1)) = txt (l.take k) ++ txtB c := by
        rw [List.take_add_one, List.getElem?_eq_getElem hlt]
        simp only [Option.toList_some, txt_snoc]
        simp [← hc, hlt]
      have hel := txt_len (l.take k)
      rw [List.length_take] at hel
      have HST := Lib.hid hst
      clear hst hc
      by_cases hq : c = 40 ∨ c = 41 ∨ c = 92
      · have HB := Lib.hid (show txtB c = [92, c] by unfold txtB; rw [if_pos hq])
        have hp : ((c.toNat : Int) == 40) = true ∨ (((c.toNat : Int) == 40) = false ∧ ((c.toNat : Int) == 41) = true) ∨ (((c.toNat : Int) == 40) = false ∧ ((c.toNat : Int) == 41) = false ∧ ((c.toNat : Int) == 92) = true) := by
          rcases hq with rfl | rfl | rfl
          · exact Or.inl rfl
          · exact Or.inr (Or.inl ⟨rfl, rfl⟩)
          · exact Or.inr (Or.inr ⟨rfl, rfl, rfl⟩)
        clear hq
        rcases hp with p1 | ⟨p1, p2⟩ | ⟨p1, p2, p3⟩
        all_goals
          go_wp2_with (first | (go_at_call 84; ((with_reducible refine (write_calls B b (Lib.byteCells (bs ++ 40 :: txt (l.take k))) [.int .u8 92, .int .u8 (c.toNat : Int)] ⟨wr.heap.size, 0, none⟩ 2 2 _ (Lib.IsBuffer.old HR.out.1 (by (repeat' (first | (with_reducible first | exact Up.refl _ | assumption | refine Up.alloc ?_ _ | refine Up.drew ?_ | refine Up.drewN ?_ _ | refine Up.setCell ?_ ?_ _ | refine Up.call ?_ (by assumption)) | go_size)))) (by simp; omega) (Lib.byteCells_one _) rfl (by decide) (by simp; omega) (news_of (cs := #[.int .u8 92, .int .u8 (c.toNat : Int)]) (by (repeat' (with_reducible first | assumption | (refine Row.at _ _ ?_; (simp; done)) | refine Row.alloc ?_ _ | refine Row.drew ?_ | refine Row.drewN ?_ _ | refine Row.other ?_ (by first | (simp; done) | (simp; omega) | omega) _ | refine Row.up ?_ (by assumption) | refine Row.chg ?_ (by assumption) (by first | (simp; done) | (simp; omega)))))) (by simp [Value.oneCell']) (by rw [Lib.byteCells_length, List.length_append, List.length_cons]; omega)).mono ?_); rintro E w2 ⟨rfl, hI2, hb2, hk2⟩; have HI2 := Lib.hid hI2; clear hI2)))
          go_roundw
          all_goals try (case measure => simp [intOf]; omega)
          all_goals
            refine ⟨k + 1, by omega, by go_num, Lib.hid ⟨?_, HR.out.2.1.trans (Below.trans ((show Up wr _ by (repeat' (first | (with_reducible first | exact Up.refl _ | assumption | refine Up.alloc ?_ _ | refine Up.drew ?_ | refine Up.drewN ?_ _ | refine Up.setCell ?_ ?_ _ | refine Up.call ?_ (by assumption)) | go_size))).mono (Nat.le_trans hBw zw)) hb2), HR.out.2.2.1.trans ((Kept.refl _ _ _).up (show Up wr _ by (repeat' (first | (with_reducible first | exact Up.refl _ | assumption | refine Up.alloc ?_ _ | refine Up.drew ?_ | refine Up.drewN ?_ _ | refine Up.setCell ?_ ?_ _ | refine Up.call ?_ (by assumption)) | go_size))) |>.trans hk2), ?_⟩⟩
            · have e9 : Lib.byteCells (bs ++ 40 :: txt (l.take (k + 1))) = Lib.byteCells (bs ++ 40 :: txt (l.take k)) ++ [.int .u8 92, .int .u8 (c.toNat : Int)] := by
                rw [HST.out, HB.out]; simp [Lib.byteCells]
              rw [e9]; exact HI2.out
            · exact HR.out.2.2.2.kept ((Kept.refl _ _ _).up (show Up wr _ by (repeat' (first | (with_reducible first | exact Up.refl _ | assumption | refine Up.alloc ?_ _ | refine Up.drew ?_ | refine Up.drewN ?_ _ | refine Up.setCell ?_ ?_ _ | refine Up.call ?_ (by assumption)) | go_size))) |>.trans hk2) (by omega)
      · have n1 := ne_of (c := c) (k := 40) (z := 40) (fun h => hq (Or.inl h)) (by decide) rfl
        have n2 := ne_of (c := c) (k := 41) (z := 41) (fun h => hq (Or.inr (Or.inl h))) (by decide) rfl
        have n3 := ne_of (c := c) (k := 92) (z := 92) (fun h => hq (Or.inr (Or.inr h))) (by decide) rfl
        have HQ := Lib.hid hq
        clear hq
        by_cases ho : c.toNat < 32 ∨ 126 < c.toNat
        · have HB := Lib.hid (show txtB c = [92, UInt8.ofNat (48 + c.toNat / 64), UInt8.ofNat (48 + c.toNat / 8 % 8), UInt8.ofNat (48 + c.toNat % 8)] by unfold txtB; rw [if_neg HQ.out, if_pos ho])
          have hp : decide ((c.toNat : Int) < 32) = true ∨ (decide ((c.toNat : Int) < 32) = false ∧ decide (126 < (c.toNat : Int)) = true) := by
            by_cases h1 : c.toNat < 32
            · left; simp; omega
            · right; refine ⟨by simp; omega, by simp; omega⟩
          clear ho
          have a7 := (and7 c).trans (show ((c.toNat % 8 : Nat) : Int) = (c.toNat : Int) % 8 by omega)
          have a78 := (and78 c).trans (show ((c.toNat / 8 % 8 : Nat) : Int) = (c.toNat : Int) / 8 % 8 by omega)
          rcases hp with p1 | ⟨p1, p2⟩
          all_goals
            go_wp2_with (first | (go_at_call 84; ((with_reducible refine (write_calls B b (Lib.byteCells (bs ++ 40 :: txt (l.take k))) [.int .u8 92, .int .u8 (48 + (c.toNat : Int) / 64), .int .u8 (48 + (c.toNat : Int) / 8 % 8), .int .u8 (48 + (c.toNat : Int) % 8)] ⟨wr.heap.size, 0, none⟩ 4 4 _ (Lib.IsBuffer.old HR.out.1 (by (repeat' (first | (with_reducible first | exact Up.refl _ | assumption | refine Up.alloc ?_ _ | refine Up.drew ?_ | refine Up.drewN ?_ _ | refine Up.setCell ?_ ?_ _ | refine Up.call ?_ (by assumption)) | go_size)))) (by simp; omega) (Lib.byteCells_one _) rfl (by decide) (by simp; omega) (news_of (cs := #[.int .u8 92, .int .u8 (48 + (c.toNat : Int) / 64), .int .u8 (48 + (c.toNat : Int) / 8 % 8), .int .u8 (48 + (c.toNat : Int) % 8)]) (by (repeat' (with_reducible first | assumption | (refine Row.at _ _ ?_; (simp; done)) | refine Row.alloc ?_ _ | refine Row.drew ?_ | refine Row.drewN ?_ _ | refine Row.other ?_ (by first | (simp; done) | (simp; omega) | omega) _ | refine Row.up ?_ (by assumption) | refine Row.chg ?_ (by assumption) (by first | (simp; done) | (simp; omega)))))) (by simp [Value.oneCell']) (by rw [Lib.byteCells_length, List.length_append, List.length_cons]; omega)).mono ?_); rintro E w2 ⟨rfl, hI2, hb2, hk2⟩; have HI2 := Lib.hid hI2; clear hI2)))
            go_roundw
            all_goals try (case measure => simp [intOf]; omega)
            all_goals
              refine ⟨k + 1, by omega, by go_num, Lib.hid ⟨?_, HR.out.2.1.trans (Below.trans ((show Up wr _ by (repeat' (first | (with_reducible first | exact Up.refl _ | assumption | refine Up.alloc ?_ _ | refine Up.drew ?_ | refine Up.drewN ?_ _ | refine Up.setCell ?_ ?_ _ | refine Up.call ?_ (by assumption)) | go_size))).mono (Nat.le_trans hBw zw)) hb2), HR.out.2.2.1.trans ((Kept.refl _ _ _).up (show Up wr _ by (repeat' (first | (with_reducible first | exact Up.refl _ | assumption | refine Up.alloc ?_ _ | refine Up.drew ?_ | refine Up.drewN ?_ _ | refine Up.setCell ?_ ?_ _ | refine Up.call ?_ (by assumption)) | go_size))) |>.trans hk2), ?_⟩⟩
              · have e9 : Lib.byteCells (bs ++ 40 :: txt (l.take (k + 1))) = Lib.byteCells (bs ++ 40 :: txt (l.take k)) ++ [.int .u8 92, .int .u8 (48 + (c.toNat : Int) / 64), .int .u8 (48 + (c.toNat : Int) / 8 % 8), .int .u8 (48 + (c.toNat : Int) % 8)] := by
                  rw [HST.out, HB.out, show bs ++ 40 :: (txt (l.take k) ++ [92, UInt8.ofNat (48 + c.toNat / 64), UInt8.ofNat (48 + c.toNat / 8 % 8), UInt8.ofNat (48 + c.toNat % 8)]) = (bs ++ 40 :: txt (l.take k)) ++ [92, UInt8.ofNat (48 + c.toNat / 64), UInt8.ofNat (48 + c.toNat / 8 % 8), UInt8.ofNat (48 + c.toNat % 8)] by simp, cells_app, cells4]
                rw [e9]; exact HI2.out
              · exact HR.out.2.2.2.kept ((Kept.refl _ _ _).up (show Up wr _ by (repeat' (first | (with_reducible first | exact Up.refl _ | assumption | refine Up.alloc ?_ _ | refine Up.drew ?_ | refine Up.drewN ?_ _ | refine Up.setCell ?_ ?_ _ | refine Up.call ?_ (by assumption)) | go_size))) |>.trans hk2) (by omega)
        · have HB := Lib.hid (show txtB c = [c] by unfold txtB; rw [if_neg HQ.out, if_neg ho])
          have p1 : decide ((c.toNat : Int) < 32) = false := decide_eq_false (by omega)
          have p2 : decide (126 < (c.toNat : Int)) = false := decide_eq_false (by omega)
          clear ho
          go_wp2_with (go_at_call 118; ((with_reducible refine (writeByte_calls B b (Lib.byteCells (bs ++ 40 :: txt (l.take k))) (c.toNat : Int) _ HR.out.1 (by omega) (Lib.byteCells_one _) (by rw [Lib.byteCells_length, List.length_append, List.length_cons]; omega)).mono ?_); rintro E w2 ⟨rfl, hI2, hb2, hk2⟩; have HI2 := Lib.hid hI2; clear hI2))
          go_roundw
          case measure => simp [intOf]; omega
          case rel =>
            refine ⟨k + 1, by omega, by go_num, Lib.hid ⟨?_, HR.out.2.1.trans hb2, HR.out.2.2.1.trans hk2, HR.out.2.2.2.kept hk2 (by omega)⟩⟩
            have e9 : Lib.byteCells (bs ++ 40 :: txt (l.take (k + 1))) = Lib.byteCells (bs ++ 40 :: txt (l.take k)) ++ [.int .u8 (c.toNat : Int)] := by
              rw [HST.out, HB.out]; simp [Lib.byteCells]
            rw [e9]; exact HI2.out
    · have y1 : decide (k < l.length) = false := decide_eq_false hlt
      obtain rfl : k = l.length := by omega
      have hel := txt_len l
      go_wp2_with (go_at_call 118; ((with_reducible refine (writeByte_calls B b (Lib.byteCells (bs ++ 40 :: txt (l.take l.length))) 41 _ HR.out.1 (by have := HR.out.2.1.size; omega) (Lib.byteCells_one _) (by rw [Lib.byteCells_length, List.length_append, List.length_cons, List.take_length]; omega)).mono ?_); rintro E w2 ⟨rfl, hI2, hb2, hk2⟩; have HI2 := Lib.hid hI2; clear hI2))
      go_returns
      refine ⟨rfl, ?_, HR.out.2.1.trans hb2, HR.out.2.2.1.trans hk2⟩
      have e9 : Lib.byteCells (bs ++ 40 :: (txt l ++ [41])) = Lib.byteCells (bs ++ 40 :: txt (l.take l.length)) ++ [.int .u8 41] := by
        rw [List.take_length]; simp [Lib.byteCells]
      rw [e9]; exact HI2.out

end Go.Proofs.YtpellcdggaeppaaGreatDoor.Pob
end

section
namespace Go.Proofs.YtpellcdggaeppaaGreatDoor.Pob
open Go.ChangeShapes Go.WideShapes Go.RowKit Go.Shelf
set_option linter.unusedVariables false
set_option linter.unusedSimpArgs false

set_option maxRecDepth 8000 in
set_option maxHeartbeats 4000000 in
theorem rText_calls (l : List UInt8) (hl : l.length ≤ 70000) (w : World) : Calls Tryz.prog 32 #[.string ⟨l.toArray⟩] w fun e w' => e = .returned (.string ⟨(40 :: (txt l ++ [41])).toArray⟩) ∧ Up w w' := by
  obtain ⟨i0, hi, hz0, hz1, hz2⟩ := info_parts u8_info
  have IX := Lib.hid (fun (W : World) (j : Nat) (hj : j < l.length) => run_index_list (P := Tryz.prog) W 9 l .i64 j Tryz.underlying9 hj)
  obtain ⟨T, hT⟩ : ∃ T : List UInt8, (40 :: (txt l ++ [41])) = T := ⟨_, rfl⟩
  rw [hT]
  have HT := Lib.hid hT
  clear hT
  go_enter Tryz.func32, Tryz.ntmps32
  go_wp2
  go_loopw [3, 4] (fun s3 s4 wr => ∃ (k : Nat) (v : Value) (n : Nat), k ≤ l.length ∧ s3 = v ∧ s4 = .int .i64 k ∧ Hid (wr.ownsRow w.heap.size 5 1 v n (Lib.byteCells (40 :: txt (l.take k)))) ∧ Hid (n = (40 :: txt (l.take k)).length) ∧ Hid (Up w wr)) (fun _ s4 _ => l.length - (intOf s4).toNat)
  case atStart => exact ⟨0, _, 1, Nat.zero_le _, rfl, rfl, Lib.hid ⟨rfl, Or.inr ⟨w.heap.size, 1, #[.int .u8 40], rfl, Nat.le_refl _, heap_alloc_new w _, by decide, by decide, rfl, by simp [Lib.byteCells, txt]⟩⟩, Lib.hid rfl, Lib.hid (by (repeat' (first | (with_reducible first | exact Up.refl _ | assumption | refine Up.alloc ?_ _ | refine Up.drew ?_ | refine Up.drewN ?_ _ | refine Up.setCell ?_ ?_ _ | refine Up.call ?_ (by assumption)) | go_size)))⟩
  case round =>
    obtain ⟨k, v, n, hk, rfl, rfl, HOWN, HN, HUP⟩ := hrel
    have hel := txt_len (l.take k)
    rw [List.length_take] at hel
    have nl : n ≤ 300000 := by rw [HN.out, List.length_cons]; omega
    clear hel
    by_cases hlt : k < l.length
    · have d0 : decide (k < l.length) = true := decide_eq_true hlt
      have ik := fun W => IX.out W k hlt
      obtain ⟨c, hc⟩ : ∃ c, l.getD k 0 = c := ⟨_, rfl⟩
      have HST := Lib.hid (show txt (l.take (k + 1)) = txt (l.take k) ++ txtB c by
        rw [List.take_add_one, List.getElem?_eq_getElem hlt]
        simp only [Option.toList_some, txt_snoc]
        simp [← hc, hlt])
      simp only [hc] at ik
      have hlc := c.toNat_lt
      clear hc
      by_cases hq : c = 40 ∨ c = 41 ∨ c = 92
      · have HB := Lib.hid (show txtB c = [92, c] by unfold txtB; rw [if_pos hq])
        have hp : ((c.toNat : Int) == 40) = true ∨ (((c.toNat : Int) == 40) = false ∧ ((c.toNat : Int) == 41) = true) ∨ (((c.toNat : Int) == 40) = false ∧ ((c.toNat : Int) == 41) = false ∧ ((c.toNat : Int) == 92) = true) := by
          rcases hq with rfl | rfl | rfl
          · exact Or.inl rfl
          · exact Or.inr (Or.inl ⟨rfl, rfl⟩)
          · exact Or.inr (Or.inr ⟨rfl, rfl, rfl⟩)
        clear hq
        rcases hp with p1 | ⟨p1, p2⟩ | ⟨p1, p2, p3⟩
        · go_wp2_with (at_builtin; refine wpList_append_own _ rfl _ _ 27 rfl w.heap.size 5 i0 (.int .u8 0) 1 1 Tryz.underlying27 hi hz0 hz1 hz2 rfl (by decide) _ _ _ rfl (HOWN.out.alloc _) ⟨wr.heap.size, 0, none⟩ 2 2 [.int .u8 92, .int .u8 (c.toNat : Int)] rfl rfl ?c1 ?c2 ?c3 ?c4 ?c5 ?_)
          case c1 => exact news_of (cs := #[.int .u8 92, .int .u8 (c.toNat : Int)]) (by (repeat' (with_reducible first | assumption | (refine Row.at _ _ ?_; (simp; done)) | refine Row.alloc ?_ _ | refine Row.drew ?_ | refine Row.drewN ?_ _ | refine Row.other ?_ (by first | (simp; done) | (simp; omega) | omega) _ | refine Row.up ?_ (by assumption) | refine Row.chg ?_ (by assumption) (by first | (simp; done) | (simp; omega)))))
          case c2 => simp [Value.oneCell']
          case c3 => unfold maxLen; omega
          case c4 => omega
          case c5 => have := HUP.out.size; simp; omega
          intro v2 w2 hown2 hgrow _
          have HU2 : Hid (Up w w2) := Lib.hid (grown_up (show Up w _ from Up.alloc HUP.out _) hgrow (fun k hk => (HOWN.out.lt k hk).1))
          have HO2 := Lib.hid hown2
          clear hown2 hgrow
          go_wp2
          go_roundw
          case rel =>
            refine ⟨k + 1, v2, n + 2, by omega, rfl, by go_num, Lib.hid ?_, Lib.hid ?_, HU2⟩
            · have e9 : Lib.byteCells (40 :: txt (l.take (k + 1))) = Lib.byteCells (40 :: txt (l.take k)) ++ [.int .u8 92, .int .u8 (c.toNat : Int)] := by
                rw [HST.out, HB.out]; simp [Lib.byteCells]
              rw [e9]; exact HO2.out
            · rw [HN.out, HST.out, HB.out]; simp; try omega
          case measure => simp [intOf]; omega
        · go_wp2_with (at_builtin; refine wpList_append_own _ rfl _ _ 27 rfl w.heap.size 5 i0 (.int .u8 0) 1 1 Tryz.underlying27 hi hz0 hz1 hz2 rfl (by decide) _ _ _ rfl (HOWN.out.alloc _) ⟨wr.heap.size, 0, none⟩ 2 2 [.int .u8 92, .int .u8 (c.toNat : Int)] rfl rfl ?c1 ?c2 ?c3 ?c4 ?c5 ?_)
          case c1 => exact news_of (cs := #[.int .u8 92, .int .u8 (c.toNat : Int)]) (by (repeat' (with_reducible first | assumption | (refine Row.at _ _ ?_; (simp; done)) | refine Row.alloc ?_ _ | refine Row.drew ?_ | refine Row.drewN ?_ _ | refine Row.other ?_ (by first | (simp; done) | (simp; omega) | omega) _ | refine Row.up ?_ (by assumption) | refine Row.chg ?_ (by assumption) (by first | (simp; done) | (simp; omega)))))
          case c2 => simp [Value.oneCell']
          case c3 => unfold maxLen; omega
          case c4 => omega
          case c5 => have := HUP.out.size; simp; omega
          intro v2 w2 hown2 hgrow _
          have HU2 : Hid (Up w w2) := Lib.hid (grown_up (show Up w _ from Up.alloc HUP.out _) hgrow (fun k hk => (HOWN.out.lt k hk).1))
          have HO2 := Lib.hid hown2
          clear hown2 hgrow
          go_wp2
          go_roundw
          case rel =>
            refine ⟨k + 1, v2, n + 2, by omega, rfl, by go_num, Lib.hid ?_, Lib.hid ?_, HU2⟩
            · have e9 : Lib.byteCells (40 :: txt (l.take (k + 1))) = Lib.byteCells (40 :: txt (l.take k)) ++ [.int .u8 92, .int .u8 (c.toNat : Int)] := by
                rw [HST.out, HB.out]; simp [Lib.byteCells]
              rw [e9]; exact HO2.out
            · rw [HN.out, HST.out, HB.out]; simp; try omega
          case measure => simp [intOf]; omega
        · go_wp2_with (at_builtin; refine wpList_append_own _ rfl _ _ 27 rfl w.heap.size 5 i0 (.int .u8 0) 1 1 Tryz.underlying27 hi hz0 hz1 hz2 rfl (by decide) _ _ _ rfl (HOWN.out.alloc _) ⟨wr.heap.size, 0, none⟩ 2 2 [.int .u8 92, .int .u8 (c.toNat : Int)] rfl rfl ?c1 ?c2 ?c3 ?c4 ?c5 ?_)
          case c1 => exact news_of (cs := #[.int .u8 92, .int .u8 (c.toNat : Int)]) (by (repeat' (with_reducible first | assumption | (refine Row.at _ _ ?_; (simp; done)) | refine Row.alloc ?_ _ | refine Row.drew ?_ | refine Row.drewN ?_ _ | refine Row.other ?_ (by first | (simp; done) | (simp; omega) | omega) _ | refine Row.up ?_ (by assumption) | refine Row.chg ?_ (by assumption) (by first | (simp; done) | (simp; omega)))))
          case c2 => simp [Value.oneCell']
          case c3 => unfold maxLen; omega
          case c4 => omega
          case c5 => have := HUP.out.size; simp; omega
          intro v2 w2 hown2 hgrow _
          have HU2 : Hid (Up w w2) := Lib.hid (grown_up (show Up w _ from Up.alloc HUP.out _) hgrow (fun k hk => (HOWN.out.lt k hk).1))
          have HO2 := Lib.hid hown2
          clear hown2 hgrow
          go_wp2
          go_roundw
          case rel =>
            refine ⟨k + 1, v2, n + 2, by omega, rfl, by go_num, Lib.hid ?_, Lib.hid ?_, HU2⟩
            · have e9 : Lib.byteCells (40 :: txt (l.take (k + 1))) = Lib.byteCells (40 :: txt (l.take k)) ++ [.int .u8 92, .int .u8 (c.toNat : Int)] := by
                rw [HST.out, HB.out]; simp [Lib.byteCells]
              rw [e9]; exact HO2.out
            · rw [HN.out, HST.out, HB.out]; simp; try omega
          case measure => simp [intOf]; omega
      · have n1 := ne_of (c := c) (k := 40) (z := 40) (fun h => hq (Or.inl h)) (by decide) rfl
        have n2 := ne_of (c := c) (k := 41) (z := 41) (fun h => hq (Or.inr (Or.inl h))) (by decide) rfl
        have n3 := ne_of (c := c) (k := 92) (z := 92) (fun h => hq (Or.inr (Or.inr h))) (by decide) rfl
        have HQ := Lib.hid hq
        clear hq
        by_cases ho : c.toNat < 32 ∨ 126 < c.toNat
        · have HB := Lib.hid (show txtB c = [92, UInt8.ofNat (48 + c.toNat / 64), UInt8.ofNat (48 + c.toNat / 8 % 8), UInt8.ofNat (48 + c.toNat % 8)] by unfold txtB; rw [if_neg HQ.out, if_pos ho])
          have hp : decide ((c.toNat : Int) < 32) = true ∨ (decide ((c.toNat : Int) < 32) = false ∧ decide (126 < (c.toNat : Int)) = true) := by
            by_cases h1 : c.toNat < 32
            · left; simp; omega
            · right; refine ⟨by simp; omega, by simp; omega⟩
          clear ho
          rcases hp with p1 | ⟨p1, p2⟩
          · go_wp2_with (at_builtin; refine wpList_append_own _ rfl _ _ 27 rfl w.heap.size 5 i0 (.int .u8 0) 1 1 Tryz.underlying27 hi hz0 hz1 hz2 rfl (by decide) _ _ _ rfl (HOWN.out.alloc _) ⟨wr.heap.size, 0, none⟩ 4 4 [.int .u8 92, .int .u8 (48 + (c.toNat : Int) / 64), .int .u8 (48 + (c.toNat : Int) / 8 % 8), .int .u8 (48 + (c.toNat : Int) % 8)] rfl rfl ?c1 ?c2 ?c3 ?c4 ?c5 ?_)
            case c1 => exact news_of (cs := #[.int .u8 92, .int .u8 (48 + (c.toNat : Int) / 64), .int .u8 (48 + (c.toNat : Int) / 8 % 8), .int .u8 (48 + (c.toNat : Int) % 8)]) (by (repeat' (with_reducible first | assumption | (refine Row.at _ _ ?_; (simp; done)) | refine Row.alloc ?_ _ | refine Row.drew ?_ | refine Row.drewN ?_ _ | refine Row.other ?_ (by first | (simp; done) | (simp; omega) | omega) _ | refine Row.up ?_ (by assumption) | refine Row.chg ?_ (by assumption) (by first | (simp; done) | (simp; omega)))))
            case c2 => simp [Value.oneCell']
            case c3 => unfold maxLen; omega
            case c4 => omega
            case c5 => have := HUP.out.size; simp; omega
            intro v2 w2 hown2 hgrow _
            have HU2 : Hid (Up w w2) := Lib.hid (grown_up (show Up w _ from Up.alloc HUP.out _) hgrow (fun k hk => (HOWN.out.lt k hk).1))
            have HO2 := Lib.hid hown2
            clear hown2 hgrow
            go_wp2
            go_roundw
            case rel =>
              refine ⟨k + 1, v2, n + 4, by omega, rfl, by go_num, Lib.hid ?_, Lib.hid ?_, HU2⟩
              · have e9 : Lib.byteCells (40 :: txt (l.take (k + 1))) = Lib.byteCells (40 :: txt (l.take k)) ++ [.int .u8 92, .int .u8 (48 + (c.toNat : Int) / 64), .int .u8 (48 + (c.toNat : Int) / 8 % 8), .int .u8 (48 + (c.toNat : Int) % 8)] := by
                  rw [HST.out, HB.out, show 40 :: (txt (l.take k) ++ [92, UInt8.ofNat (48 + c.toNat / 64), UInt8.ofNat (48 + c.toNat / 8 % 8), UInt8.ofNat (48 + c.toNat % 8)]) = (40 :: txt (l.take k)) ++ [92, UInt8.ofNat (48 + c.toNat / 64), UInt8.ofNat (48 + c.toNat / 8 % 8), UInt8.ofNat (48 + c.toNat % 8)] by simp, cells_app, cells4]
                rw [e9]; exact HO2.out
              · rw [HN.out, HST.out, HB.out]; simp; try omega
            case measure => simp [intOf]; omega
          · go_wp2_with (at_builtin; refine wpList_append_own _ rfl _ _ 27 rfl w.heap.size 5 i0 (.int .u8 0) 1 1 Tryz.underlying27 hi hz0 hz1 hz2 rfl (by decide) _ _ _ rfl (HOWN.out.alloc _) ⟨wr.heap.size, 0, none⟩ 4 4 [.int .u8 92, .int .u8 (48 + (c.toNat : Int) / 64), .int .u8 (48 + (c.toNat : Int) / 8 % 8), .int .u8 (48 + (c.toNat : Int) % 8)] rfl rfl ?c1 ?c2 ?c3 ?c4 ?c5 ?_)
            case c1 => exact news_of (cs := #[.int .u8 92, .int .u8 (48 + (c.toNat : Int) / 64), .int .u8 (48 + (c.toNat : Int) / 8 % 8), .int .u8 (48 + (c.toNat : Int) % 8)]) (by (repeat' (with_reducible first | assumption | (refine Row.at _ _ ?_; (simp; done)) | refine Row.alloc ?_ _ | refine Row.drew ?_ | refine Row.drewN ?_ _ | refine Row.other ?_ (by first | (simp; done) | (simp; omega) | omega) _ | refine Row.up ?_ (by assumption) | refine Row.chg ?_ (by assumption) (by first | (simp; done) | (simp; omega)))))
            case c2 => simp [Value.oneCell']
            case c3 => unfold maxLen; omega
            case c4 => omega
            case c5 => have := HUP.out.size; simp; omega
            intro v2 w2 hown2 hgrow _
            have HU2 : Hid (Up w w2) := Lib.hid (grown_up (show Up w _ from Up.alloc HUP.out _) hgrow (fun k hk => (HOWN.out.lt k hk).1))
            have HO2 := Lib.hid hown2
            clear hown2 hgrow
            go_wp2
            go_roundw
            case rel =>
              refine ⟨k + 1, v2, n + 4, by omega, rfl, by go_num, Lib.hid ?_, Lib.hid ?_, HU2⟩
              · have e9 : Lib.byteCells (40 :: txt (l.take (k + 1))) = Lib.byteCells (40 :: txt (l.take k)) ++ [.int .u8 92, .int .u8 (48 + (c.toNat : Int) / 64), .int .u8 (48 + (c.toNat : Int) / 8 % 8), .int .u8 (48 + (c.toNat : Int) % 8)] := by
                  rw [HST.out, HB.out, show 40 :: (txt (l.take k) ++ [92, UInt8.ofNat (48 + c.toNat / 64), UInt8.ofNat (48 + c.toNat / 8 % 8), UInt8.ofNat (48 + c.toNat % 8)]) = (40 :: txt (l.take k)) ++ [92, UInt8.ofNat (48 + c.toNat / 64), UInt8.ofNat (48 + c.toNat / 8 % 8), UInt8.ofNat (48 + c.toNat % 8)] by simp, cells_app, cells4]
                rw [e9]; exact HO2.out
              · rw [HN.out, HST.out, HB.out]; simp; try omega
            case measure => simp [intOf]; omega
        · have HB := Lib.hid (show txtB c = [c] by unfold txtB; rw [if_neg HQ.out, if_neg ho])
          have p1 : decide ((c.toNat : Int) < 32) = false := decide_eq_false (by omega)
          have p2 : decide (126 < (c.toNat : Int)) = false := decide_eq_false (by omega)
          clear ho
          go_wp2_with (at_builtin; refine wpList_append_own _ rfl _ _ 27 rfl w.heap.size 5 i0 (.int .u8 0) 1 1 Tryz.underlying27 hi hz0 hz1 hz2 rfl (by decide) _ _ _ rfl (HOWN.out.alloc _) ⟨wr.heap.size, 0, none⟩ 1 1 [.int .u8 (c.toNat : Int)] rfl rfl ?c1 ?c2 ?c3 ?c4 ?c5 ?_)
          case c1 => exact news_of (cs := #[.int .u8 (c.toNat : Int)]) (by (repeat' (with_reducible first | assumption | (refine Row.at _ _ ?_; (simp; done)) | refine Row.alloc ?_ _ | refine Row.drew ?_ | refine Row.drewN ?_ _ | refine Row.other ?_ (by first | (simp; done) | (simp; omega) | omega) _ | refine Row.up ?_ (by assumption) | refine Row.chg ?_ (by assumption) (by first | (simp; done) | (simp; omega)))))
          case c2 => simp [Value.oneCell']
          case c3 => unfold maxLen; omega
          case c4 => omega
          case c5 => have := HUP.out.size; simp; omega
          intro v2 w2 hown2 hgrow _
          have HU2 : Hid (Up w w2) := Lib.hid (grown_up (show Up w _ from Up.alloc HUP.out _) hgrow (fun k hk => (HOWN.out.lt k hk).1))
          have HO2 := Lib.hid hown2
          clear hown2 hgrow
          go_wp2
          go_roundw
          case rel =>
            refine ⟨k + 1, v2, n + 1, by omega, rfl, by go_num, Lib.hid ?_, Lib.hid ?_, HU2⟩
            · have e9 : Lib.byteCells (40 :: txt (l.take (k + 1))) = Lib.byteCells (40 :: txt (l.take k)) ++ [.int .u8 (c.toNat : Int)] := by
                rw [HST.out, HB.out]; simp [Lib.byteCells]
              rw [e9]; exact HO2.out
            · rw [HN.out, HST.out, HB.out]; simp; try omega
          case measure => simp [intOf]; omega
    · have d0 : decide (k < l.length) = false := decide_eq_false hlt
      obtain rfl : k = l.length := by omega
      go_wp2_with (at_builtin; refine wpList_append_own _ rfl _ _ 27 rfl w.heap.size 5 i0 (.int .u8 0) 1 1 Tryz.underlying27 hi hz0 hz1 hz2 rfl (by decide) _ _ _ rfl (HOWN.out.alloc _) ⟨wr.heap.size, 0, none⟩ 1 1 [.int .u8 41] rfl rfl ?c1 ?c2 ?c3 ?c4 ?c5 ?_)
      case c1 => exact news_of (cs := #[.int .u8 41]) (by (repeat' (with_reducible first | assumption | (refine Row.at _ _ ?_; (simp; done)) | refine Row.alloc ?_ _ | refine Row.drew ?_ | refine Row.drewN ?_ _ | refine Row.other ?_ (by first | (simp; done) | (simp; omega) | omega) _ | refine Row.up ?_ (by assumption) | refine Row.chg ?_ (by assumption) (by first | (simp; done) | (simp; omega)))))
      case c2 => simp [Value.oneCell']
      case c3 => unfold maxLen; omega
      case c4 => omega
      case c5 => have := HUP.out.size; simp; omega
      intro v2 w2 hown2 hgrow _
      have HU2 : Hid (Up w w2) := Lib.hid (grown_up (show Up w _ from Up.alloc HUP.out _) hgrow (fun k hk => (HOWN.out.lt k hk).1))
      have HO2 := Lib.hid hown2
      clear hown2 hgrow
      have h9 : w2.ownsRow w.heap.size 5 1 v2 (n + 1) (Lib.byteCells (40 :: (txt l ++ [41]))) := by
        have e9 : Lib.byteCells (40 :: (txt l ++ [41])) = Lib.byteCells (40 :: txt l) ++ [.int .u8 41] := by
          simp [Lib.byteCells]
        rw [e9]; exact HO2.out
      have hn9 : n + 1 = (40 :: (txt l ++ [41])).length := by rw [HN.out]; simp
      obtain ⟨g, cap, rfl, -, h1, h2, h3, h4, h5⟩ := owns_some h9 (fun e => by
        subst e
        rcases h9.2 with ⟨_, h0⟩ | ⟨g, cap, cur, h0, _⟩
        · omega
        · cases h0)
      have hB : BytesAt w2 (.slice (some ⟨g, 0, none⟩) (n + 1) cap) (40 :: (txt l ++ [41])) := ⟨⟨g, cap, by rw [← hn9], by omega, h2, h3, fun j hj => h5 j _ (byteCells_get _ j hj)⟩⟩
      have cv := BytesAt.conv hB
      rw [HT.out] at cv
      clear hB h4 h5 h9 hn9
      go_wp2
      go_ret
      exact ⟨rfl, HU2.out⟩

end Go.Proofs.YtpellcdggaeppaaGreatDoor.Pob
end

section
namespace Go.Proofs.YtpellcdggaeppaaGreatDoor.Pob
open Go.ChangeShapes Go.WideShapes Go.RowKit Go.Shelf
set_option linter.unusedVariables false
set_option linter.unusedSimpArgs false

def dfl : PO := .mk 0 0 [] none 0 0 [] none 0 0 [] none 0 0 []
/-- an object without parts -/
def leafP : PO → List UInt8
  | .mk k n t ka kl kc ks la ll lc l da dl dc d =>
    if k = 0 then [110, 117, 108, 108] else
    if k = 1 then (if n = 1 then [116, 114, 117, 101] else [102, 97, 108, 115, 101]) else
    if k = 2 then intL n else
    if k = 3 then prR n else
    if k = 4 then 47 :: enc t else
    if k = 5 then 40 :: (txt t ++ [41]) else intL n ++ [32, 48, 32, 82]
/-- elements, the first i -/
def elsP (f : PO → List UInt8) (l : List PO) (i : Nat) : List UInt8 := (List.range i).flatMap (fun j => (if j = 0 then [] else [32]) ++ f (l.getD j dfl))
/-- keys and objects, the first i -/
def parP (f : PO → List UInt8) (ks : List (List UInt8)) (l : List PO) (i : Nat) : List UInt8 := (List.range i).flatMap (fun j => 32 :: 47 :: (enc (ks.getD j []) ++ 32 :: f (l.getD j dfl)))
def dictP (f : PO → List UInt8) (ks : List (List UInt8)) (l : List PO) (more : List UInt8) : List UInt8 := 60 :: 60 :: (parP f ks l ks.length ++ (more ++ [32, 62, 62]))
def lenP (n : Nat) : List UInt8 := [32, 47, 76, 101, 110, 103, 116, 104, 32] ++ intL n
/-- an object as bytes, m deep -/
def prn : Nat → PO → List UInt8
  | 0, o => leafP o
  | m + 1, o =>
    if o.k = 6 then 91 :: (elsP (prn m) o.l o.l.length ++ [93]) else
    if o.k = 7 then dictP (prn m) o.ks o.l [] else
    if o.k = 9 then dictP (prn m) o.ks o.l (lenP o.d.length) ++ ([10, 115, 116, 114, 101, 97, 109, 10] ++ (o.d ++ [10, 101, 110, 100, 115, 116, 114, 101, 97, 109])) else leafP o
theorem els_succ (f : PO → List UInt8) (l : List PO) (i : Nat) : elsP f l (i + 1) = elsP f l i ++ ((if i = 0 then [] else [32]) ++ f (l.getD i dfl)) := by
  unfold elsP; rw [List.range_succ, List.flatMap_append]; simp
theorem par_succ (f : PO → List UInt8) (ks : List (List UInt8)) (l : List PO) (i : Nat) : parP f ks l (i + 1) = parP f ks l i ++ (32 :: 47 :: (enc (ks.getD i []) ++ 32 :: f (l.getD i dfl))) := by
  unfold parP; rw [List.range_succ, List.flatMap_append]; simp
theorem flat_le (g : Nat → List UInt8) : ∀ (n i : Nat), i ≤ n → ((List.range i).flatMap g).length ≤ ((List.range n).flatMap g).length
  | 0, i, h => by obtain rfl : i = 0 := by omega
                  exact Nat.le_refl _
  | n + 1, i, h => by
    by_cases e : i = n + 1
    · rw [e]; exact Nat.le_refl _
    · rw [List.range_succ, List.flatMap_append, List.length_append]
      have := flat_le g n i (by omega)
      omega
theorem par_le (f : PO → List UInt8) (ks : List (List UInt8)) (l : List PO) {i n : Nat} (h : i < n) : (parP f ks l i).length + (enc (ks.getD i [])).length + (f (l.getD i dfl)).length + 3 ≤ (parP f ks l n).length := by
  have h1 := flat_le (fun j => 32 :: 47 :: (enc (ks.getD j []) ++ 32 :: f (l.getD j dfl))) n (i + 1) h
  have h2 := congrArg List.length (par_succ f ks l i)
  rw [List.length_append, List.length_cons, List.length_cons, List.length_append, List.length_cons] at h2
  have h3 : (parP f ks l (i + 1)).length ≤ (parP f ks l n).length := h1
  omega
theorem els_le (f : PO → List UInt8) (l : List PO) {i n : Nat} (h : i < n) : (elsP f l i).length + (f (l.getD i dfl)).length ≤ (elsP f l n).length := by
  have h1 := flat_le (fun j => (if j = 0 then [] else [32]) ++ f (l.getD j dfl)) n (i + 1) h
  have h2 := congrArg List.length (els_succ f l i)
  rw [List.length_append, List.length_append] at h2
  have h3 : (elsP f l (i + 1)).length ≤ (elsP f l n).length := h1
  omega

/-- a box of an object -/
abbrev BoxAt (w : World) (g : Nat) (cs : Array Value) : Prop := w.heap[g]? = some (.cells cs 37 (0, 0))
theorem BoxAt.kept {w w1 : World} {g b : Nat} {cs : Array Value} (h : BoxAt w g cs) (k : Lib.OthersKept 5 (some b) w w1) (hb : g ≠ b) : BoxAt w1 g cs :=
  k g _ h (fun e => hb (Option.some.inj e)) (fun c f he => by injection he with _ h2 _; exact absurd h2 (by decide))
theorem BoxAt.up {w w1 : World} {g : Nat} {cs : Array Value} (h : BoxAt w g cs) (hu : Up w w1) : BoxAt w1 g cs := by
  show w1.heap[g]? = _
  rw [hu.block g (Array.getElem?_eq_some_iff.1 h).1]; exact h
theorem BoxAt.lt {w : World} {g : Nat} {cs : Array Value} (h : BoxAt w g cs) : g < w.heap.size := (Array.getElem?_eq_some_iff.1 h).1
theorem BoxAt.cell {w : World} {g : Nat} {cs : Array Value} (h : BoxAt w g cs) (i : Nat) {v : Value} (hv : cs[i]? = some v) : w.cell? ⟨g, i, none⟩ = some v := by
  rw [Lib.cell_of_heap h]; exact hv
theorem BoxAt.new (w : World) (cs : Array Value) : BoxAt (w.alloc (.cells cs 37)) w.heap.size cs := heap_alloc_new w _

abbrev OK (b : Nat) (w w' : World) : Prop := Lib.OthersKept 5 (some b) w w'
theorem OK.of {b : Nat} {w w1 : World} (h : Kept 5 b w w1) : OK b w w1 := fun k o hk hb ho => h k o hk (fun e => hb (congrArg some e)) (fun c => ho c (0, 0))
theorem OK.upc {b : Nat} {w w1 w2 : World} (h : OK b w w1) (hu : Up w1 w2) : OK b w w2 := fun k o hk hb ho => by
  have h1 := h k o hk hb ho
  rw [hu.block k (Array.getElem?_eq_some_iff.1 h1).1]; exact h1
theorem OK.refl (b : Nat) (w : World) : OK b w w := Lib.OthersKept.refl _ _ _
theorem OK.tr {b : Nat} {w w1 w2 : World} (h : OK b w w1) (k : OK b w1 w2) : OK b w w2 := fun i o hi hb ho => k i o (h i o hi hb ho) hb ho
theorem up_below {w0 w w1 : World} {B : Nat} (hu : Up w0 w) (hb : Below B w w1) (h : w0.heap.size ≤ B) : Up w0 w1 := Below.trans hu (hb.mono h)

theorem wByte (B b : Nat) (bs : List UInt8) (c : UInt8) (z : Int) (hz : (c.toNat : Int) = z) (w : World) (h : IsBuf B b (Lib.byteCells bs) w) (hBw : B ≤ w.heap.size) (hlim : bs.length + 1 ≤ 140737488355328) :
    Calls Tryz.prog 118 #[.pointer (some ⟨b, 0, none⟩), .int .u8 z] w fun e w' => e = .returned .nilIface ∧ IsBuf B b (Lib.byteCells (bs ++ [c])) w' ∧ Below B w w' ∧ OK b w w' := by
  subst hz
  refine (Tryz.Buffer_WriteByte_kept B b (Lib.byteCells bs) (c.toNat : Int) w h hBw (Lib.byteCells_one _) (by rw [Lib.byteCells_length]; exact hlim)).mono ?_
  rintro e w' ⟨rfl, h1, h2, h3⟩
  exact ⟨rfl, by rw [show Lib.byteCells (bs ++ [c]) = Lib.byteCells bs ++ [.int .u8 (c.toNat : Int)] by simp [Lib.byteCells]]; exact h1, h2, h3⟩
theorem wStr (B b : Nat) (bs s : List UInt8) (w : World) (h : IsBuf B b (Lib.byteCells bs) w) (hBw : B ≤ w.heap.size) (hlim : bs.length + s.length ≤ 140737488355328) :
    Calls Tryz.prog 48 #[.pointer (some ⟨b, 0, none⟩), .string ⟨s.toArray⟩] w fun e w' => e = .returned (.tuple #[.int .i64 (s.length : Nat), .nilIface]) ∧ IsBuf B b (Lib.byteCells (bs ++ s)) w' ∧ Below B w w' ∧ OK b w w' := by
  have hs : (⟨s.toArray⟩ : ByteArray).size = s.length := by show s.toArray.size = _; simp
  refine (Tryz.Buffer_WriteString_kept B b (Lib.byteCells bs) ⟨s.toArray⟩ w h hBw (Lib.byteCells_one _) (by rw [Lib.byteCells_length, hs]; exact hlim)).mono ?_
  rintro e w' ⟨rfl, h1, h2, h3⟩
  exact ⟨by rw [hs], by rw [cells_app]; simpa using h1, h2, h3⟩
theorem byteCells_at (l : List UInt8) (j : Nat) (v : Value) (h : (Lib.byteCells l)[j]? = some v) : ∃ c, l[j]? = some c ∧ v = .int .u8 (c.toNat : Int) := by
  simp only [Lib.byteCells, List.getElem?_map, Option.map_eq_some_iff] at h
  obtain ⟨c, h1, h2⟩ := h
  exact ⟨c, h1, h2.symm⟩
/-- Write of a slice of bytes that lies below the buffer -/
theorem wBytes (B b : Nat) (bs : List UInt8) (g o n c : Nat) (d : List UInt8) (w : World) (h : IsBuf B b (Lib.byteCells bs) w) (hBw : B ≤ w.heap.size) (hn : d.length = n) (hg : g < B) (hd : ∀ (j : Nat) (x : UInt8), d[j]? = some x → w.cell? ⟨g, o + j, none⟩ = some (.int .u8 (x.toNat : Int))) (hlim : bs.length + n ≤ 140737488355328) :
    Calls Tryz.prog 84 #[.pointer (some ⟨b, 0, none⟩), .slice (some ⟨g, o, none⟩) n c] w fun e w' => e = .returned (.tuple #[.int .i64 (n : Nat), .nilIface]) ∧ IsBuf B b (Lib.byteCells (bs ++ d)) w' ∧ Below B w w' ∧ OK b w w' := by
  refine (Tryz.Buffer_Write_kept B b (Lib.byteCells bs) (Lib.byteCells d) ⟨g, o, none⟩ n c w h hBw (Lib.byteCells_one _) (by rw [Lib.byteCells_length]; exact hn) hg (fun j v hv => ?_) (Lib.byteCells_one _) (by rw [Lib.byteCells_length]; exact hlim)).mono ?_
  · obtain ⟨x, h1, rfl⟩ := byteCells_at d j v hv
    rw [add_plain]; exact hd j x h1
  · rintro e w' ⟨rfl, h1, h2, h3⟩
    exact ⟨rfl, by rw [cells_app]; exact h1, h2, h3⟩

set_option maxRecDepth 8000 in
/-- Write of no byte -/
theorem wNil (B b : Nat) (bs : List UInt8) (da : Option Addr) (dc : Nat) (hdc : dc ≤ 9223372036854775807) (w : World) (h : IsBuf B b (Lib.byteCells bs) w) (hBw : B ≤ w.heap.size) (hlim : bs.length ≤ 140737488355328) (hne : bs ≠ []) :
    Calls Tryz.prog 84 #[.pointer (some ⟨b, 0, none⟩), .slice da 0 dc] w fun e w' => e = .returned (.tuple #[.int .i64 0, .nilIface]) ∧ IsBuf B b (Lib.byteCells bs) w' ∧ Below B w w' ∧ OK b w w' := by
  obtain ⟨hB, v0, lr, hbk, -, -⟩ := id h
  have c2 : w.cell? ⟨b, 2, none⟩ = some (.int .i8 lr) := by rw [Lib.cell_of_heap hbk]; rfl
  have f2 : w.frozen? ⟨b, 2, none⟩ = false := Lib.frozen_of_heap hbk 2
  have h' := h.setLast 0
  have hbel0 : Below B w (w.setCell ⟨b, 2, none⟩ (.int .i8 0)) := (Below.refl B w).setCell (p := ⟨b, 2, none⟩) hB _
  have hk0 : OK b w (w.setCell ⟨b, 2, none⟩ (.int .i8 0)) := OK.of (Kept.setB _ _)
  have hBw' : B ≤ (w.setCell ⟨b, 2, none⟩ (.int .i8 0)).heap.size := by simpa [World.setCell] using hBw
  clear hbk v0
  have fin : ∀ W1 xs, xs.length = 0 → IsBuf B b (Lib.byteCells bs ++ xs) W1 → ∃ g cap, W1.cell? ⟨b, 0, none⟩ = some (.slice (some ⟨g, 0, none⟩) bs.length cap) ∧ cap ≤ 9223372036854775807 ∧ bs.length ≤ cap ∧ IsBuf B b (Lib.byteCells bs) W1 := by
    intro W1 xs hxl hI
    obtain rfl := List.eq_nil_of_length_eq_zero hxl
    rw [List.append_nil] at hI
    obtain ⟨-, lr2, hc⟩ := id hI.cases
    rcases hc with ⟨hnil, -⟩ | ⟨g, cap, cur, hbk2, hBg, hg, hnc, hcm, hcs, htk, hgb⟩
    · exact absurd (congrArg List.length hnil) (by rw [Lib.byteCells_length, List.length_nil]; intro e; exact hne (List.eq_nil_of_length_eq_zero e))
    · rw [Lib.byteCells_length] at hbk2 hnc
      exact ⟨g, cap, by rw [Lib.cell_of_heap hbk2]; rfl, hcm, hnc, hI⟩
  have hT := fun W hW => Tryz.Buffer_tryGrow_own B b 0 (Lib.byteCells bs) W hW
  have hG := fun W hW hn hs => Tryz.Buffer_grow_own B b 0 (Lib.byteCells bs) W hW hn hs (Lib.byteCells_one _) (by rw [Lib.byteCells_length]; exact hlim)
  have cn := fun (W : World) (a : Option Addr) (l c : Nat) => run_copy_none (P := Tryz.prog) W 27 27 3 5 a da l c 0 dc Tryz.underlying27 (by kernel_rfl) (Nat.zero_min _)
  rw [Lib.byteCells_length] at hT hG
  go_enter Tryz.func84, Tryz.ntmps84
  go_wp2_with (go_at_call 85; refine (hT _ h').mono ?_)
  rintro e W1 (⟨rfl, xs, hxl, hI, hbel, hok, hg⟩ | ⟨rfl, rfl, hnr⟩)
  · have hbelW := hbel0.trans hbel
    have hkW := hk0.tr hok
    obtain ⟨g, cap, d0, k1, k2, r1⟩ := fin W1 xs hxl hI
    clear hT hG h' hbel hbel0 hBw' c2 f2 fin hI hok
    go_wp2
    all_goals
      go_ret2
      exact ⟨rfl, r1, hbelW, hkW⟩
  · go_wp2_with (go_at_call 86; refine (hG _ h' hnr hBw').mono ?_)
    rintro e W1 ⟨rfl, xs, hxl, hI, hbel, hok, hg⟩
    have hbelW := hbel0.trans hbel
    have hkW := hk0.tr hok
    obtain ⟨g, cap, d0, k1, k2, r1⟩ := fin W1 xs hxl hI
    clear hT hG h' hbel hbel0 hBw' c2 f2 hnr fin hI hok
    go_wp2
    all_goals
      go_ret2
      exact ⟨rfl, r1, hbelW, hkW⟩
end Go.Proofs.YtpellcdggaeppaaGreatDoor.Pob
end

section
namespace Go.Proofs.YtpellcdggaeppaaGreatDoor.Pob
open Go.ChangeShapes Go.WideShapes Go.RowKit Go.Shelf
set_option linter.unusedVariables false
set_option linter.unusedSimpArgs false

/-- an object is written so, in any world behind w0 -/
abbrev WrC (w0 : World) (f : List UInt8) (cs : Array Value) : Prop := ∀ (B b : Nat) (bs : List UInt8) (w : World), w0.heap.size ≤ B → Up w0 w → B ≤ w.heap.size → IsBuf B b (Lib.byteCells bs) w → bs.length + f.length ≤ 140737480000000 →
  Calls Tryz.prog 122 #[.pointer (some ⟨b, 0, none⟩), .agg cs] w fun e w' => e = .returned (.tuple #[]) ∧ IsBuf B b (Lib.byteCells (bs ++ f)) w' ∧ Below B w w' ∧ OK b w w'
theorem getD_of {α : Type} {l : List α} {i : Nat} {x d : α} (h : l[i]? = some x) : l.getD i d = x := by rw [List.getD_eq_getElem?_getD, h]; rfl

set_option maxRecDepth 8000 in
set_option maxHeartbeats 4000000 in
theorem pairs_calls (f : PO → List UInt8) (k n : Int) (t : List UInt8) (ka : Option Addr) (kl kc : Nat) (ks : List (List UInt8)) (la : Option Addr) (ll lc : Nat) (l : List PO) (da : Option Addr) (dl dc : Nat) (more : List UInt8) (hmo : more.length ≤ 1000) (w0 : World) (hk : Sl 1 kcells w0 ka kl kc ks) (hl : Sl 6 PO.cells w0 la ll lc l) (hkl : kl = ll) (hkb : ∀ s ∈ ks, s.length ≤ 300) (hrec : ∀ c ∈ l, WrC w0 (f c) c.cells.toArray)
    (B b : Nat) (bs : List UInt8) (w : World) (h0 : w0.heap.size ≤ B) (hu : Up w0 w) (hBw : B ≤ w.heap.size) (h : IsBuf B b (Lib.byteCells bs) w) (hlim : bs.length + (dictP f ks l more).length ≤ 140737480000000) :
    Calls Tryz.prog 153 #[.pointer (some ⟨b, 0, none⟩), .agg #[.int .i64 k, .int .i64 n, .string ⟨t.toArray⟩, .slice ka kl kc, .slice la ll lc, .slice da dl dc], .string ⟨more.toArray⟩] w fun e w' => e = .returned (.tuple #[]) ∧ IsBuf B b (Lib.byteCells (bs ++ dictP f ks l more)) w' ∧ Below B w w' ∧ OK b w w' := by
  subst hkl
  have hb := Lib.IsBuffer.lt h
  have H := Lib.hid h
  have HK := Lib.hid hk
  have HL := Lib.hid hl
  have HKN := Lib.hid hk.2.2.1
  have HLN := Lib.hid hl.2.2.1
  have HKB := Lib.hid hkb
  have HREC := Lib.hid hrec
  have HU0 := Lib.hid hu
  have k1 := hk.1
  have k2 := hk.2.1
  have l1 := hl.1
  have l2 := hl.2.1
  have HLIM := Lib.hid (show bs.length + 2 + (parP f ks l kl).length + more.length + 3 ≤ 140737480000000 by
    have := hk.2.2.1
    unfold dictP at hlim
    rw [this] at hlim
    simp only [List.length_cons, List.length_append, List.length_nil] at hlim
    omega)
  have HMORE : Hid ((⟨more.toArray⟩ : ByteArray) ++ ⟨#[32, 62, 62]⟩ = ⟨(more ++ [32, 62, 62]).toArray⟩) := Lib.hid (str_app more [32, 62, 62])
  obtain ⟨cs, hcs⟩ : ∃ cs : Array Value, cs = #[.int .i64 k, .int .i64 n, .string ⟨t.toArray⟩, .slice ka kl kc, .slice la kl lc, .slice da dl dc] := ⟨_, rfl⟩
  have HCS := Lib.hid hcs
  have hlen0 : bs.length ≤ 140737480000000 := by omega
  clear h hk hl hkb hrec hu hlim hcs
  go_enter Tryz.func153, Tryz.ntmps153
  go_wp2_with (go_at_call 48; ((with_reducible refine (wStr B b bs [60, 60] _ (Lib.IsBuffer.old H.out (by (repeat' (first | (with_reducible first | exact Up.refl _ | assumption | refine Up.alloc ?_ _ | refine Up.drew ?_ | refine Up.drewN ?_ _ | refine Up.setCell ?_ ?_ _ | refine Up.call ?_ (by assumption)) | go_size)))) (by simp; omega) (by simp; omega)).mono ?_); rintro e w1 ⟨rfl, hI1, hb1, ho1⟩; have HI1 := Lib.hid hI1; have HB1 := Lib.hid (Below.trans ((show Up w _ by (repeat' (first | (with_reducible first | exact Up.refl _ | assumption | refine Up.alloc ?_ _ | refine Up.drew ?_ | refine Up.drewN ?_ _ | refine Up.setCell ?_ ?_ _ | refine Up.call ?_ (by assumption)) | go_size))).mono hBw) hb1); have HO1 := Lib.hid (((OK.refl b w).upc (show Up w _ by (repeat' (first | (with_reducible first | exact Up.refl _ | assumption | refine Up.alloc ?_ _ | refine Up.drew ?_ | refine Up.drewN ?_ _ | refine Up.setCell ?_ ?_ _ | refine Up.call ?_ (by assumption)) | go_size)))).tr ho1); have HX1 := Lib.hid (BoxAt.kept (BoxAt.new w #[.int .i64 k, .int .i64 n, .string ⟨t.toArray⟩, .slice ka kl kc, .slice la kl lc, .slice da dl dc]) ho1 (by omega)); have x3 := HX1.out.cell 3 rfl; have lx := HX1.out.lt; clear hI1 hb1 ho1))
  go_loopw [13] (fun s13 wr => ∃ i : Nat, i ≤ kl ∧ s13 = .int .i64 i ∧ Hid (IsBuf B b (Lib.byteCells (bs ++ 60 :: 60 :: parP f ks l i)) wr ∧ Below B w wr ∧ OK b w wr ∧ BoxAt wr w.heap.size #[.int .i64 k, .int .i64 n, .string ⟨t.toArray⟩, .slice ka kl kc, .slice la kl lc, .slice da dl dc])) (fun s13 _ => kl - (intOf s13).toNat)
  case atStart => exact ⟨0, Nat.zero_le _, rfl, Lib.hid ⟨by have := HI1.out; exact this, HB1.out, HO1.out, HX1.out⟩⟩
  case round =>
    obtain ⟨i, hi, rfl, HR⟩ := hrel
    clear x3 lx
    have y3 := HR.out.2.2.2.cell 3 rfl
    have y4 := HR.out.2.2.2.cell 4 rfl
    have ly := HR.out.2.2.2.lt
    have HUR := Lib.hid (up_below HU0.out HR.out.2.1 h0)
    have zr := HR.out.2.1.size
    by_cases hlt : i < kl
    · have dlt : decide (i < kl) = true := decide_eq_true hlt
      obtain ⟨kb, ko, rfl, hkb, hkc⟩ := sl_some HK.out (by omega)
      obtain ⟨gb, go, rfl, hgb, hgc⟩ := sl_some HL.out (by omega)
      obtain ⟨x, hx⟩ : ∃ x, ks[i]? = some x := ⟨_, List.getElem?_eq_getElem (by have := HKN.out; omega)⟩
      obtain ⟨c, hc⟩ : ∃ c, l[i]? = some c := ⟨_, List.getElem?_eq_getElem (by have := HLN.out; omega)⟩
      have q0 : wr.cell? ⟨kb, ko + i, none⟩ = some (.string ⟨x.toArray⟩) := (HUR.out.cells.1 kb _ hkb).trans (by have := hkc i x 0 _ hx rfl; simpa using this)
      have lkb : kb < wr.heap.size := Nat.lt_of_lt_of_le hkb HUR.out.size
      have hxl := HKB.out x (List.mem_of_getElem? hx)
      have HPL := Lib.hid (par_le f ks l hlt)
      rw [getD_of hx, getD_of hc] at HPL
      have HPS := Lib.hid (par_succ f ks l i)
      rw [getD_of hx, getD_of hc] at HPS
      have HRC := Lib.hid (HREC.out c (List.mem_of_getElem? hc))
      have HC := Lib.hid hc
      have HGC := Lib.hid hgc
      have HGB := Lib.hid hgb
      obtain ⟨ck, cn, ct, cka, ckl, ckc, cks, cla, cll, clc, cl, cda, cdl, cdc, cd⟩ := c
      obtain ⟨F, hF⟩ : ∃ F, f (.mk ck cn ct cka ckl ckc cks cla cll clc cl cda cdl cdc cd) = F := ⟨_, rfl⟩
      rw [hF] at HPL HPS HRC
      have HRC2 : Hid (WrC w0 F #[.int .i64 ck, .int .i64 cn, .string ⟨ct.toArray⟩, .slice cka ckl ckc, .slice cla cll clc, .slice cda cdl cdc]) := HRC
      have HL5 := Lib.hid (show bs.length + 2 + (parP f ks l i).length + (enc x).length + F.length + 3 ≤ 140737480000000 by have h1 := HLIM.out; have h2 := HPL.out; omega)
      clear hx hc hkc hgc hgb hF HRC
      go_wp2_with (first
        | (go_at_call 118; ((with_reducible refine (wByte B b (bs ++ 60 :: 60 :: parP f ks l i) 32 32 rfl _ HR.out.1 (by omega) (by have := HL5.out; simp only [List.length_append, List.length_cons]; omega)).mono ?_); rintro e w2 ⟨rfl, hI2, hb2, ho2⟩; have HI2 := Lib.hid hI2; have HB2 := Lib.hid (HR.out.2.1.trans hb2); have HO2 := Lib.hid (HR.out.2.2.1.tr ho2); have HX2 := Lib.hid (HR.out.2.2.2.kept ho2 (by omega)); have z2 := HB2.out.size; clear hI2 hb2 ho2))
        | (go_at_call 151; ((with_reducible refine (name_calls B b (bs ++ 60 :: 60 :: parP f ks l i ++ [32]) x _ HI2.out (by omega) (by have := HL5.out; simp only [List.length_append, List.length_cons, List.length_nil]; omega)).mono ?_); rintro e w3 ⟨rfl, hI3, hb3, ho3⟩; have HI3 := Lib.hid hI3; have HB3 := Lib.hid (HB2.out.trans hb3); have HO3 := Lib.hid (HO2.out.tr (OK.of ho3)); have HX3 := Lib.hid (HX2.out.kept (OK.of ho3) (by omega)); have z3 := HB3.out.size; clear hI3 hb3 ho3))
        | (go_at_call 118; ((with_reducible refine (wByte B b (bs ++ 60 :: 60 :: parP f ks l i ++ [32] ++ 47 :: enc x) 32 32 rfl _ HI3.out (by omega) (by have := HL5.out; simp only [List.length_append, List.length_cons, List.length_nil]; omega)).mono ?_); rintro e w4 ⟨rfl, hI4, hb4, ho4⟩; have HI4 := Lib.hid hI4; have HB4 := Lib.hid (HB3.out.trans hb4); have HO4 := Lib.hid (HO3.out.tr ho4); have HX4 := Lib.hid (HX3.out.kept ho4 (by omega)); have z4 := HB4.out.size; have HU4 := Lib.hid (up_below HU0.out HB4.out h0); have v4 := HX4.out.cell 4 rfl; have lv := HX4.out.lt; have lg4 := Nat.lt_of_lt_of_le HGB.out HU4.out.size; obtain ⟨e0, e1, e2, e3, e4, e5⟩ := po_at HGB.out HGC.out HU4.out HC.out; clear hI4 hb4 ho4))
        | (go_at_call 122; ((with_reducible refine (HRC2.out B b (bs ++ 60 :: 60 :: parP f ks l i ++ [32] ++ 47 :: enc x ++ [32]) _ h0 HU4.out (by omega) HI4.out (by have := HL5.out; simp only [List.length_append, List.length_cons, List.length_nil]; omega)).mono ?_); rintro e w5 ⟨rfl, hI5, hb5, ho5⟩; have HI5 := Lib.hid hI5; have HB5 := Lib.hid (HB4.out.trans hb5); have HO5 := Lib.hid (HO4.out.tr ho5); have HX5 := Lib.hid (HX4.out.kept ho5 (by omega)); clear hI5 hb5 ho5)))
      go_roundw
      case measure => simp [intOf]; omega
      case rel =>
        refine ⟨i + 1, by omega, by go_num, Lib.hid ⟨?_, HB5.out, HO5.out, HX5.out⟩⟩
        have e9 : bs ++ 60 :: 60 :: parP f ks l (i + 1) = bs ++ 60 :: 60 :: parP f ks l i ++ [32] ++ 47 :: enc x ++ [32] ++ F := by rw [HPS.out]; simp
        rw [e9]; exact HI5.out
    · have dlt : decide (i < kl) = false := decide_eq_false hlt
      obtain rfl : kl = i := by omega
      go_wp2_with (go_at_call 48; ((with_reducible rw [HMORE.out]); (with_reducible refine (wStr B b (bs ++ 60 :: 60 :: parP f ks l kl) (more ++ [32, 62, 62]) _ HR.out.1 (by omega) (by have := HLIM.out; simp only [List.length_append, List.length_cons, List.length_nil]; omega)).mono ?_); rintro e w2 ⟨rfl, hI2, hb2, ho2⟩; have HI2 := Lib.hid hI2; have HB2 := Lib.hid (HR.out.2.1.trans hb2); have HO2 := Lib.hid (HR.out.2.2.1.tr ho2); clear hI2 hb2 ho2))
      go_returns
      refine ⟨rfl, ?_, HB2.out, HO2.out⟩
      have e9 : bs ++ dictP f ks l more = bs ++ 60 :: 60 :: parP f ks l kl ++ (more ++ [32, 62, 62]) := by unfold dictP; rw [HKN.out]; simp
      rw [e9]; exact HI2.out

end Go.Proofs.YtpellcdggaeppaaGreatDoor.Pob
end

section
namespace Go.Proofs.YtpellcdggaeppaaGreatDoor.Pob
open Go.ChangeShapes Go.WideShapes Go.RowKit Go.Shelf
set_option linter.unusedVariables false
set_option linter.unusedSimpArgs false

set_option maxRecDepth 8000 in
set_option maxHeartbeats 4000000 in
theorem write_k0 (n : Int) (t : List UInt8) (ka : Option Addr) (kl kc : Nat) (la : Option Addr) (ll lc : Nat) (da : Option Addr) (dl dc : Nat)  (B b : Nat) (bs : List UInt8) (w : World) (hBw : B ≤ w.heap.size) (h : IsBuf B b (Lib.byteCells bs) w) (hlim : bs.length + 200000 ≤ 140737488355328) :
    Calls Tryz.prog 122 #[.pointer (some ⟨b, 0, none⟩), .agg #[.int .i64 0, .int .i64 n, .string ⟨t.toArray⟩, .slice ka kl kc, .slice la ll lc, .slice da dl dc]] w fun e w' => e = .returned (.tuple #[]) ∧ IsBuf B b (Lib.byteCells (bs ++ [110, 117, 108, 108])) w' ∧ Below B w w' ∧ OK b w w' := by
  have hb := Lib.IsBuffer.lt h
  have H := Lib.hid h
  clear h
  go_enter Tryz.func122, Tryz.ntmps122
  go_wp2_with (go_at_call 48; ((with_reducible refine (wStr B b bs [110, 117, 108, 108] _ (Lib.IsBuffer.old H.out (by (repeat' (first | (with_reducible first | exact Up.refl _ | assumption | refine Up.alloc ?_ _ | refine Up.drew ?_ | refine Up.drewN ?_ _ | refine Up.setCell ?_ ?_ _ | refine Up.call ?_ (by assumption)) | go_size)))) (by first | (simp; omega) | omega) (by first | (simp; omega) | omega)).mono ?_); rintro e w9 ⟨rfl, hI9, hb9, ho9⟩; have HI9 := Lib.hid hI9; have HB9 := Lib.hid (Below.trans ((show Up w _ by (repeat' (first | (with_reducible first | exact Up.refl _ | assumption | refine Up.alloc ?_ _ | refine Up.drew ?_ | refine Up.drewN ?_ _ | refine Up.setCell ?_ ?_ _ | refine Up.call ?_ (by assumption)) | go_size))).mono hBw) hb9); have HO9 := Lib.hid (((OK.refl b w).upc (show Up w _ by (repeat' (first | (with_reducible first | exact Up.refl _ | assumption | refine Up.alloc ?_ _ | refine Up.drew ?_ | refine Up.drewN ?_ _ | refine Up.setCell ?_ ?_ _ | refine Up.call ?_ (by assumption)) | go_size)))).tr ho9); clear hI9 hb9 ho9))
  go_returns
  exact ⟨rfl, HI9.out, HB9.out, HO9.out⟩

set_option maxRecDepth 8000 in
set_option maxHeartbeats 4000000 in
theorem write_k1t (n : Int) (t : List UInt8) (ka : Option Addr) (kl kc : Nat) (la : Option Addr) (ll lc : Nat) (da : Option Addr) (dl dc : Nat) (hn : n = 1) (B b : Nat) (bs : List UInt8) (w : World) (hBw : B ≤ w.heap.size) (h : IsBuf B b (Lib.byteCells bs) w) (hlim : bs.length + 200000 ≤ 140737488355328) :
    Calls Tryz.prog 122 #[.pointer (some ⟨b, 0, none⟩), .agg #[.int .i64 1, .int .i64 n, .string ⟨t.toArray⟩, .slice ka kl kc, .slice la ll lc, .slice da dl dc]] w fun e w' => e = .returned (.tuple #[]) ∧ IsBuf B b (Lib.byteCells (bs ++ [116, 114, 117, 101])) w' ∧ Below B w w' ∧ OK b w w' := by
  have hb := Lib.IsBuffer.lt h
  have H := Lib.hid h
  clear h
  have d1 : ((n : Int) == 1) = true := by simp [hn]
  have HFB : Hid (∀ W, Calls Tryz.prog 149 #[.bool true] W fun e w' => e = .returned (.string ⟨([116, 114, 117, 101] : List UInt8).toArray⟩) ∧ w' = W) := Lib.hid (fun W => Tryz.strconv_FormatBool true W)
  clear hn
  go_enter Tryz.func122, Tryz.ntmps122
  go_wp2_with (first | (go_at_call 149; ((with_reducible refine (HFB.out _).mono ?_); rintro e w1 ⟨rfl, rfl⟩)) | (go_at_call 48; ((with_reducible refine (wStr B b bs [116, 114, 117, 101] _ (Lib.IsBuffer.old H.out (by (repeat' (first | (with_reducible first | exact Up.refl _ | assumption | refine Up.alloc ?_ _ | refine Up.drew ?_ | refine Up.drewN ?_ _ | refine Up.setCell ?_ ?_ _ | refine Up.call ?_ (by assumption)) | go_size)))) (by first | (simp; omega) | omega) (by first | (simp; omega) | omega)).mono ?_); rintro e w9 ⟨rfl, hI9, hb9, ho9⟩; have HI9 := Lib.hid hI9; have HB9 := Lib.hid (Below.trans ((show Up w _ by (repeat' (first | (with_reducible first | exact Up.refl _ | assumption | refine Up.alloc ?_ _ | refine Up.drew ?_ | refine Up.drewN ?_ _ | refine Up.setCell ?_ ?_ _ | refine Up.call ?_ (by assumption)) | go_size))).mono hBw) hb9); have HO9 := Lib.hid (((OK.refl b w).upc (show Up w _ by (repeat' (first | (with_reducible first | exact Up.refl _ | assumption | refine Up.alloc ?_ _ | refine Up.drew ?_ | refine Up.drewN ?_ _ | refine Up.setCell ?_ ?_ _ | refine Up.call ?_ (by assumption)) | go_size)))).tr ho9); clear hI9 hb9 ho9)))
  go_returns
  exact ⟨rfl, HI9.out, HB9.out, HO9.out⟩

set_option maxRecDepth 8000 in
set_option maxHeartbeats 4000000 in
theorem write_k1f (n : Int) (t : List UInt8) (ka : Option Addr) (kl kc : Nat) (la : Option Addr) (ll lc : Nat) (da : Option Addr) (dl dc : Nat) (hn : n ≠ 1) (B b : Nat) (bs : List UInt8) (w : World) (hBw : B ≤ w.heap.size) (h : IsBuf B b (Lib.byteCells bs) w) (hlim : bs.length + 200000 ≤ 140737488355328) :
    Calls Tryz.prog 122 #[.pointer (some ⟨b, 0, none⟩), .agg #[.int .i64 1, .int .i64 n, .string ⟨t.toArray⟩, .slice ka kl kc, .slice la ll lc, .slice da dl dc]] w fun e w' => e = .returned (.tuple #[]) ∧ IsBuf B b (Lib.byteCells (bs ++ [102, 97, 108, 115, 101])) w' ∧ Below B w w' ∧ OK b w w' := by
  have hb := Lib.IsBuffer.lt h
  have H := Lib.hid h
  clear h
  have d1 : ((n : Int) == 1) = false := by simp [hn]
  have HFB : Hid (∀ W, Calls Tryz.prog 149 #[.bool false] W fun e w' => e = .returned (.string ⟨([102, 97, 108, 115, 101] : List UInt8).toArray⟩) ∧ w' = W) := Lib.hid (fun W => Tryz.strconv_FormatBool false W)
  clear hn
  go_enter Tryz.func122, Tryz.ntmps122
  go_wp2_with (first | (go_at_call 149; ((with_reducible refine (HFB.out _).mono ?_); rintro e w1 ⟨rfl, rfl⟩)) | (go_at_call 48; ((with_reducible refine (wStr B b bs [102, 97, 108, 115, 101] _ (Lib.IsBuffer.old H.out (by (repeat' (first | (with_reducible first | exact Up.refl _ | assumption | refine Up.alloc ?_ _ | refine Up.drew ?_ | refine Up.drewN ?_ _ | refine Up.setCell ?_ ?_ _ | refine Up.call ?_ (by assumption)) | go_size)))) (by first | (simp; omega) | omega) (by first | (simp; omega) | omega)).mono ?_); rintro e w9 ⟨rfl, hI9, hb9, ho9⟩; have HI9 := Lib.hid hI9; have HB9 := Lib.hid (Below.trans ((show Up w _ by (repeat' (first | (with_reducible first | exact Up.refl _ | assumption | refine Up.alloc ?_ _ | refine Up.drew ?_ | refine Up.drewN ?_ _ | refine Up.setCell ?_ ?_ _ | refine Up.call ?_ (by assumption)) | go_size))).mono hBw) hb9); have HO9 := Lib.hid (((OK.refl b w).upc (show Up w _ by (repeat' (first | (with_reducible first | exact Up.refl _ | assumption | refine Up.alloc ?_ _ | refine Up.drew ?_ | refine Up.drewN ?_ _ | refine Up.setCell ?_ ?_ _ | refine Up.call ?_ (by assumption)) | go_size)))).tr ho9); clear hI9 hb9 ho9)))
  go_returns
  exact ⟨rfl, HI9.out, HB9.out, HO9.out⟩
theorem prR_len (n : Int) (h1 : -2147483648 ≤ n) (h2 : n ≤ 2147483647) : (prR n).length ≤ 100003 := by
  unfold prR
  have := prP_len n h1 h2
  split
  · simp; omega
  · omega

set_option maxRecDepth 8000 in
set_option maxHeartbeats 4000000 in
theorem write_k2 (n : Int) (t : List UInt8) (ka : Option Addr) (kl kc : Nat) (la : Option Addr) (ll lc : Nat) (da : Option Addr) (dl dc : Nat) (h1 : -2147483648 ≤ n) (h2 : n ≤ 2147483647) (B b : Nat) (bs : List UInt8) (w : World) (ht : PTab w) (hBw : B ≤ w.heap.size) (h : IsBuf B b (Lib.byteCells bs) w) (hlim : bs.length + 200000 ≤ 140737488355328) :
    Calls Tryz.prog 122 #[.pointer (some ⟨b, 0, none⟩), .agg #[.int .i64 2, .int .i64 n, .string ⟨t.toArray⟩, .slice ka kl kc, .slice la ll lc, .slice da dl dc]] w fun e w' => e = .returned (.tuple #[]) ∧ IsBuf B b (Lib.byteCells (bs ++ intL n)) w' ∧ Below B w w' ∧ OK b w w' := by
  have hb := Lib.IsBuffer.lt h
  have H := Lib.hid h
  clear h
  obtain ⟨L, hL⟩ : ∃ L, intL n = L := ⟨_, rfl⟩
  rw [hL]
  have HC : Hid (∀ W, Up w W → Calls Tryz.prog 82 #[.int .i64 n] W fun e w' => e = .returned (.string ⟨L.toArray⟩) ∧ Up W w') := Lib.hid (fun W hu => by rw [← hL]; exact itoa_calls n h1 h2 W (ht.up hu))
  have ll9 : L.length ≤ 110000 := by rw [← hL]; have := intL_len n h1 h2; omega
  clear hL ht
  go_enter Tryz.func122, Tryz.ntmps122
  go_wp2_with (first | (go_at_call 82; ((with_reducible refine Calls.mono (HC.out _ ?_) ?_); (focus ((repeat' (first | (with_reducible first | exact Up.refl _ | assumption | refine Up.alloc ?_ _ | refine Up.drew ?_ | refine Up.drewN ?_ _ | refine Up.setCell ?_ ?_ _ | refine Up.call ?_ (by assumption)) | go_size)))); rintro e w1 ⟨rfl, hu1⟩; have lw1 := hu1.size; (try simp at lw1))) | (go_at_call 48; ((with_reducible refine (wStr B b bs L _ (Lib.IsBuffer.old H.out (by (repeat' (first | (with_reducible first | exact Up.refl _ | assumption | refine Up.alloc ?_ _ | refine Up.drew ?_ | refine Up.drewN ?_ _ | refine Up.setCell ?_ ?_ _ | refine Up.call ?_ (by assumption)) | go_size)))) (by first | (simp; omega) | omega) (by first | (simp; omega) | omega)).mono ?_); rintro e w9 ⟨rfl, hI9, hb9, ho9⟩; have HI9 := Lib.hid hI9; have HB9 := Lib.hid (Below.trans ((show Up w _ by (repeat' (first | (with_reducible first | exact Up.refl _ | assumption | refine Up.alloc ?_ _ | refine Up.drew ?_ | refine Up.drewN ?_ _ | refine Up.setCell ?_ ?_ _ | refine Up.call ?_ (by assumption)) | go_size))).mono hBw) hb9); have HO9 := Lib.hid (((OK.refl b w).upc (show Up w _ by (repeat' (first | (with_reducible first | exact Up.refl _ | assumption | refine Up.alloc ?_ _ | refine Up.drew ?_ | refine Up.drewN ?_ _ | refine Up.setCell ?_ ?_ _ | refine Up.call ?_ (by assumption)) | go_size)))).tr ho9); clear hI9 hb9 ho9)))
  go_returns
  exact ⟨rfl, HI9.out, HB9.out, HO9.out⟩

set_option maxRecDepth 8000 in
set_option maxHeartbeats 4000000 in
theorem write_k3 (n : Int) (t : List UInt8) (ka : Option Addr) (kl kc : Nat) (la : Option Addr) (ll lc : Nat) (da : Option Addr) (dl dc : Nat) (h1 : -2147483648 ≤ n) (h2 : n ≤ 2147483647) (B b : Nat) (bs : List UInt8) (w : World) (hBw : B ≤ w.heap.size) (h : IsBuf B b (Lib.byteCells bs) w) (hlim : bs.length + 200000 ≤ 140737488355328) :
    Calls Tryz.prog 122 #[.pointer (some ⟨b, 0, none⟩), .agg #[.int .i64 3, .int .i64 n, .string ⟨t.toArray⟩, .slice ka kl kc, .slice la ll lc, .slice da dl dc]] w fun e w' => e = .returned (.tuple #[]) ∧ IsBuf B b (Lib.byteCells (bs ++ prR n)) w' ∧ Below B w w' ∧ OK b w w' := by
  have hb := Lib.IsBuffer.lt h
  have H := Lib.hid h
  clear h
  obtain ⟨L, hL⟩ : ∃ L, prR n = L := ⟨_, rfl⟩
  rw [hL]
  have HC : Hid (∀ W, Up w W → Calls Tryz.prog 150 #[.int .i64 n] W fun e w' => e = .returned (.string ⟨L.toArray⟩) ∧ Up W w') := Lib.hid (fun W hu => by rw [← hL]; exact printReal_calls n h1 h2 W)
  have ll9 : L.length ≤ 110000 := by rw [← hL]; have := prR_len n h1 h2; omega
  clear hL
  go_enter Tryz.func122, Tryz.ntmps122
  go_wp2_with (first | (go_at_call 150; ((with_reducible refine Calls.mono (HC.out _ ?_) ?_); (focus ((repeat' (first | (with_reducible first | exact Up.refl _ | assumption | refine Up.alloc ?_ _ | refine Up.drew ?_ | refine Up.drewN ?_ _ | refine Up.setCell ?_ ?_ _ | refine Up.call ?_ (by assumption)) | go_size)))); rintro e w1 ⟨rfl, hu1⟩; have lw1 := hu1.size; (try simp at lw1))) | (go_at_call 48; ((with_reducible refine (wStr B b bs L _ (Lib.IsBuffer.old H.out (by (repeat' (first | (with_reducible first | exact Up.refl _ | assumption | refine Up.alloc ?_ _ | refine Up.drew ?_ | refine Up.drewN ?_ _ | refine Up.setCell ?_ ?_ _ | refine Up.call ?_ (by assumption)) | go_size)))) (by first | (simp; omega) | omega) (by first | (simp; omega) | omega)).mono ?_); rintro e w9 ⟨rfl, hI9, hb9, ho9⟩; have HI9 := Lib.hid hI9; have HB9 := Lib.hid (Below.trans ((show Up w _ by (repeat' (first | (with_reducible first | exact Up.refl _ | assumption | refine Up.alloc ?_ _ | refine Up.drew ?_ | refine Up.drewN ?_ _ | refine Up.setCell ?_ ?_ _ | refine Up.call ?_ (by assumption)) | go_size))).mono hBw) hb9); have HO9 := Lib.hid (((OK.refl b w).upc (show Up w _ by (repeat' (first | (with_reducible first | exact Up.refl _ | assumption | refine Up.alloc ?_ _ | refine Up.drew ?_ | refine Up.drewN ?_ _ | refine Up.setCell ?_ ?_ _ | refine Up.call ?_ (by assumption)) | go_size)))).tr ho9); clear hI9 hb9 ho9)))
  go_returns
  exact ⟨rfl, HI9.out, HB9.out, HO9.out⟩

set_option maxRecDepth 8000 in
set_option maxHeartbeats 4000000 in
theorem write_k8 (n : Int) (t : List UInt8) (ka : Option Addr) (kl kc : Nat) (la : Option Addr) (ll lc : Nat) (da : Option Addr) (dl dc : Nat) (h1 : -2147483648 ≤ n) (h2 : n ≤ 2147483647) (B b : Nat) (bs : List UInt8) (w : World) (ht : PTab w) (hBw : B ≤ w.heap.size) (h : IsBuf B b (Lib.byteCells bs) w) (hlim : bs.length + 200000 ≤ 140737488355328) :
    Calls Tryz.prog 122 #[.pointer (some ⟨b, 0, none⟩), .agg #[.int .i64 8, .int .i64 n, .string ⟨t.toArray⟩, .slice ka kl kc, .slice la ll lc, .slice da dl dc]] w fun e w' => e = .returned (.tuple #[]) ∧ IsBuf B b (Lib.byteCells (bs ++ (intL n ++ [32, 48, 32, 82]))) w' ∧ Below B w w' ∧ OK b w w' := by
  have hb := Lib.IsBuffer.lt h
  have H := Lib.hid h
  clear h
  obtain ⟨L, hL⟩ : ∃ L, intL n = L := ⟨_, rfl⟩
  rw [hL]
  have HC : Hid (∀ W, Up w W → Calls Tryz.prog 82 #[.int .i64 n] W fun e w' => e = .returned (.string ⟨L.toArray⟩) ∧ Up W w') := Lib.hid (fun W hu => by rw [← hL]; exact itoa_calls n h1 h2 W (ht.up hu))
  have ll9 : L.length ≤ 110000 := by rw [← hL]; have := intL_len n h1 h2; omega
  clear hL ht
  have HST : Hid ((⟨L.toArray⟩ : ByteArray) ++ ⟨#[32, 48, 32, 82]⟩ = ⟨(L ++ [32, 48, 32, 82]).toArray⟩) := Lib.hid (str_app L [32, 48, 32, 82])
  go_enter Tryz.func122, Tryz.ntmps122
  go_wp2_with (first | (go_at_call 82; ((with_reducible refine Calls.mono (HC.out _ ?_) ?_); (focus ((repeat' (first | (with_reducible first | exact Up.refl _ | assumption | refine Up.alloc ?_ _ | refine Up.drew ?_ | refine Up.drewN ?_ _ | refine Up.setCell ?_ ?_ _ | refine Up.call ?_ (by assumption)) | go_size)))); rintro e w1 ⟨rfl, hu1⟩; have lw1 := hu1.size; (try simp at lw1))) | (go_at_call 48; (with_reducible rw [HST.out]); ((with_reducible refine (wStr B b bs (L ++ [32, 48, 32, 82]) _ (Lib.IsBuffer.old H.out (by (repeat' (first | (with_reducible first | exact Up.refl _ | assumption | refine Up.alloc ?_ _ | refine Up.drew ?_ | refine Up.drewN ?_ _ | refine Up.setCell ?_ ?_ _ | refine Up.call ?_ (by assumption)) | go_size)))) (by first | (simp; omega) | omega) (by first | (simp; omega) | omega)).mono ?_); rintro e w9 ⟨rfl, hI9, hb9, ho9⟩; have HI9 := Lib.hid hI9; have HB9 := Lib.hid (Below.trans ((show Up w _ by (repeat' (first | (with_reducible first | exact Up.refl _ | assumption | refine Up.alloc ?_ _ | refine Up.drew ?_ | refine Up.drewN ?_ _ | refine Up.setCell ?_ ?_ _ | refine Up.call ?_ (by assumption)) | go_size))).mono hBw) hb9); have HO9 := Lib.hid (((OK.refl b w).upc (show Up w _ by (repeat' (first | (with_reducible first | exact Up.refl _ | assumption | refine Up.alloc ?_ _ | refine Up.drew ?_ | refine Up.drewN ?_ _ | refine Up.setCell ?_ ?_ _ | refine Up.call ?_ (by assumption)) | go_size)))).tr ho9); clear hI9 hb9 ho9)))
  go_returns
  exact ⟨rfl, HI9.out, HB9.out, HO9.out⟩

set_option maxRecDepth 8000 in
set_option maxHeartbeats 4000000 in
theorem write_k4 (n : Int) (t : List UInt8) (ka : Option Addr) (kl kc : Nat) (la : Option Addr) (ll lc : Nat) (da : Option Addr) (dl dc : Nat)  (B b : Nat) (bs : List UInt8) (w : World) (hBw : B ≤ w.heap.size) (h : IsBuf B b (Lib.byteCells bs) w) (hlim : bs.length + 3 * t.length + 200000 ≤ 140737488355328) :
    Calls Tryz.prog 122 #[.pointer (some ⟨b, 0, none⟩), .agg #[.int .i64 4, .int .i64 n, .string ⟨t.toArray⟩, .slice ka kl kc, .slice la ll lc, .slice da dl dc]] w fun e w' => e = .returned (.tuple #[]) ∧ IsBuf B b (Lib.byteCells (bs ++ (47 :: enc t))) w' ∧ Below B w w' ∧ OK b w w' := by
  have hb := Lib.IsBuffer.lt h
  have H := Lib.hid h
  clear h
  go_enter Tryz.func122, Tryz.ntmps122
  go_wp2_with (go_at_call 151; ((with_reducible refine (name_calls B b bs t _ (Lib.IsBuffer.old H.out (by (repeat' (first | (with_reducible first | exact Up.refl _ | assumption | refine Up.alloc ?_ _ | refine Up.drew ?_ | refine Up.drewN ?_ _ | refine Up.setCell ?_ ?_ _ | refine Up.call ?_ (by assumption)) | go_size)))) (by first | (simp; omega) | omega) (by omega)).mono ?_); rintro e w9 ⟨rfl, hI9, hb9, ho9⟩; have HI9 := Lib.hid hI9; have HB9 := Lib.hid (Below.trans ((show Up w _ by (repeat' (first | (with_reducible first | exact Up.refl _ | assumption | refine Up.alloc ?_ _ | refine Up.drew ?_ | refine Up.drewN ?_ _ | refine Up.setCell ?_ ?_ _ | refine Up.call ?_ (by assumption)) | go_size))).mono hBw) hb9); have HO9 := Lib.hid (((OK.refl b w).upc (show Up w _ by (repeat' (first | (with_reducible first | exact Up.refl _ | assumption | refine Up.alloc ?_ _ | refine Up.drew ?_ | refine Up.drewN ?_ _ | refine Up.setCell ?_ ?_ _ | refine Up.call ?_ (by assumption)) | go_size)))).tr (OK.of ho9)); clear hI9 hb9 ho9))
  go_returns
  exact ⟨rfl, HI9.out, HB9.out, HO9.out⟩

set_option maxRecDepth 8000 in
set_option maxHeartbeats 4000000 in
theorem write_k5 (n : Int) (t : List UInt8) (ka : Option Addr) (kl kc : Nat) (la : Option Addr) (ll lc : Nat) (da : Option Addr) (dl dc : Nat)  (B b : Nat) (bs : List UInt8) (w : World) (hBw : B ≤ w.heap.size) (h : IsBuf B b (Lib.byteCells bs) w) (hlim : bs.length + 4 * t.length + 200000 ≤ 140737488355328) :
    Calls Tryz.prog 122 #[.pointer (some ⟨b, 0, none⟩), .agg #[.int .i64 5, .int .i64 n, .string ⟨t.toArray⟩, .slice ka kl kc, .slice la ll lc, .slice da dl dc]] w fun e w' => e = .returned (.tuple #[]) ∧ IsBuf B b (Lib.byteCells (bs ++ (40 :: (txt t ++ [41])))) w' ∧ Below B w w' ∧ OK b w w' := by
  have hb := Lib.IsBuffer.lt h
  have H := Lib.hid h
  clear h
  go_enter Tryz.func122, Tryz.ntmps122
  go_wp2_with (go_at_call 152; ((with_reducible refine (text_calls B b bs t _ (Lib.IsBuffer.old H.out (by (repeat' (first | (with_reducible first | exact Up.refl _ | assumption | refine Up.alloc ?_ _ | refine Up.drew ?_ | refine Up.drewN ?_ _ | refine Up.setCell ?_ ?_ _ | refine Up.call ?_ (by assumption)) | go_size)))) (by first | (simp; omega) | omega) (by omega)).mono ?_); rintro e w9 ⟨rfl, hI9, hb9, ho9⟩; have HI9 := Lib.hid hI9; have HB9 := Lib.hid (Below.trans ((show Up w _ by (repeat' (first | (with_reducible first | exact Up.refl _ | assumption | refine Up.alloc ?_ _ | refine Up.drew ?_ | refine Up.drewN ?_ _ | refine Up.setCell ?_ ?_ _ | refine Up.call ?_ (by assumption)) | go_size))).mono hBw) hb9); have HO9 := Lib.hid (((OK.refl b w).upc (show Up w _ by (repeat' (first | (with_reducible first | exact Up.refl _ | assumption | refine Up.alloc ?_ _ | refine Up.drew ?_ | refine Up.drewN ?_ _ | refine Up.setCell ?_ ?_ _ | refine Up.call ?_ (by assumption)) | go_size)))).tr (OK.of ho9)); clear hI9 hb9 ho9))
  go_returns
  exact ⟨rfl, HI9.out, HB9.out, HO9.out⟩

/-- an array's first i elements, as they stand behind the bracket that comes with the first -/
def arrA (f : PO → List UInt8) (l : List PO) (i : Nat) : List UInt8 := if i = 0 then [] else 91 :: elsP f l i
theorem arr_succ (f : PO → List UInt8) (l : List PO) (i : Nat) : arrA f l (i + 1) = arrA f l i ++ ([if i = 0 then 91 else 32] ++ f (l.getD i dfl)) := by
  unfold arrA
  rw [if_neg (by omega), els_succ]
  by_cases h : i = 0
  · subst h; simp [elsP]
  · simp [h]
theorem arr_le (f : PO → List UInt8) (l : List PO) (i : Nat) : (arrA f l i).length ≤ (elsP f l i).length + 1 := by
  unfold arrA; split <;> simp

set_option maxRecDepth 8000 in
set_option maxHeartbeats 4000000 in
theorem write_k6 (n : Int) (t : List UInt8) (ka : Option Addr) (kl kc : Nat) (la : Option Addr) (ll lc : Nat) (da : Option Addr) (dl dc : Nat) (l : List PO) (f : PO → List UInt8) (w0 : World) (hl : Sl 6 PO.cells w0 la ll lc l) (hrec : ∀ c ∈ l, WrC w0 (f c) c.cells.toArray) (B b : Nat) (bs : List UInt8) (w : World) (h0 : w0.heap.size ≤ B) (hu : Up w0 w) (hBw : B ≤ w.heap.size) (h : IsBuf B b (Lib.byteCells bs) w) (hlim : bs.length + (elsP f l l.length).length + 2 ≤ 140737480000000) :
    Calls Tryz.prog 122 #[.pointer (some ⟨b, 0, none⟩), .agg #[.int .i64 6, .int .i64 n, .string ⟨t.toArray⟩, .slice ka kl kc, .slice la ll lc, .slice da dl dc]] w fun e w' => e = .returned (.tuple #[]) ∧ IsBuf B b (Lib.byteCells (bs ++ (91 :: (elsP f l l.length ++ [93])))) w' ∧ Below B w w' ∧ OK b w w' := by
  have hb := Lib.IsBuffer.lt h
  have H := Lib.hid h
  clear h
  have HL := Lib.hid hl
  have HLN := Lib.hid hl.2.2.1
  have HREC := Lib.hid hrec
  have HU0 := Lib.hid hu
  have l1 := hl.1
  have l2 := hl.2.1
  have HLIM := Lib.hid (show bs.length + (elsP f l ll).length + 2 ≤ 140737480000000 by have := hl.2.2.1; rw [this] at hlim; exact hlim)
  have hlen0 : bs.length ≤ 140737480000000 := by omega
  clear hl hrec hu hlim
  have HX0 := Lib.hid (BoxAt.new w #[.int .i64 6, .int .i64 n, .string ⟨t.toArray⟩, .slice ka kl kc, .slice la ll lc, .slice da dl dc])
  go_enter Tryz.func122, Tryz.ntmps122
  go_wp2
  go_loopw [75] (fun s75 wr => ∃ i : Nat, i ≤ ll ∧ s75 = .int .i64 i ∧ Hid (IsBuf B b (Lib.byteCells (bs ++ arrA f l i)) wr ∧ Below B w wr ∧ OK b w wr ∧ BoxAt wr w.heap.size #[.int .i64 6, .int .i64 n, .string ⟨t.toArray⟩, .slice ka kl kc, .slice la ll lc, .slice da dl dc])) (fun s75 _ => ll - (intOf s75).toNat)
  case atStart => exact ⟨0, Nat.zero_le _, rfl, Lib.hid ⟨by rw [show bs ++ arrA f l 0 = bs by simp [arrA]]; exact Lib.IsBuffer.old H.out (by (repeat' (first | (with_reducible first | exact Up.refl _ | assumption | refine Up.alloc ?_ _ | refine Up.drew ?_ | refine Up.drewN ?_ _ | refine Up.setCell ?_ ?_ _ | refine Up.call ?_ (by assumption)) | go_size))), (show Up w _ by (repeat' (first | (with_reducible first | exact Up.refl _ | assumption | refine Up.alloc ?_ _ | refine Up.drew ?_ | refine Up.drewN ?_ _ | refine Up.setCell ?_ ?_ _ | refine Up.call ?_ (by assumption)) | go_size))).mono hBw, (OK.refl b w).upc (show Up w _ by (repeat' (first | (with_reducible first | exact Up.refl _ | assumption | refine Up.alloc ?_ _ | refine Up.drew ?_ | refine Up.drewN ?_ _ | refine Up.setCell ?_ ?_ _ | refine Up.call ?_ (by assumption)) | go_size))), HX0.out⟩⟩
  case round =>
    obtain ⟨i, hi, rfl, HR⟩ := hrel
    have y4 := HR.out.2.2.2.cell 4 rfl
    have ly := HR.out.2.2.2.lt
    have HUR := Lib.hid (up_below HU0.out HR.out.2.1 h0)
    have zr := HR.out.2.1.size
    by_cases hlt : i < ll
    · have dlt : decide (i < ll) = true := decide_eq_true hlt
      obtain ⟨gb, go, rfl, hgb, hgc⟩ := sl_some HL.out (by omega)
      obtain ⟨c, hc⟩ : ∃ c, l[i]? = some c := ⟨_, List.getElem?_eq_getElem (by have := HLN.out; omega)⟩
      have lgb : gb < wr.heap.size := Nat.lt_of_lt_of_le hgb HUR.out.size
      have HPL := Lib.hid (els_le f l hlt)
      rw [getD_of hc] at HPL
      have HPS := Lib.hid (arr_succ f l i)
      rw [getD_of hc] at HPS
      have HRC := Lib.hid (HREC.out c (List.mem_of_getElem? hc))
      have HAL := Lib.hid (arr_le f l i)
      have HC := Lib.hid hc
      obtain ⟨ck, cn, ct, cka, ckl, ckc, cks, cla, cll, clc, cl, cda, cdl, cdc, cd⟩ := c
      obtain ⟨F, hF⟩ : ∃ F, f (.mk ck cn ct cka ckl ckc cks cla cll clc cl cda cdl cdc cd) = F := ⟨_, rfl⟩
      rw [hF] at HPL HPS HRC
      have HRC2 : Hid (WrC w0 F #[.int .i64 ck, .int .i64 cn, .string ⟨ct.toArray⟩, .slice cka ckl ckc, .slice cla cll clc, .slice cda cdl cdc]) := HRC
      have HL5 := Lib.hid (show bs.length + (arrA f l i).length + F.length + 1 ≤ 140737480000000 by have h1 := HLIM.out; have h2 := HPL.out; have h3 := HAL.out; omega)
      obtain ⟨e0, e1, e2, e3, e4, e5⟩ := po_at hgb hgc HUR.out HC.out
      clear hc hgc hgb hF HRC
      by_cases hi0 : i = 0
      · subst hi0
        rw [if_pos rfl] at HPS
        simp only [Nat.zero_mul, Nat.add_zero] at e0 e1 e2 e3 e4 e5
        go_wp2_with (first
          | (go_at_call 118; ((refine (wByte B b (bs ++ arrA f l 0) 91 _ (by rfl) _ (Lib.IsBuffer.old HR.out.1 (by (repeat' (first | (with_reducible first | exact Up.refl _ | assumption | refine Up.alloc ?_ _ | refine Up.drew ?_ | refine Up.drewN ?_ _ | refine Up.setCell ?_ ?_ _ | refine Up.call ?_ (by assumption)) | go_size)))) (by first | (simp; omega) | omega) (by have := HL5.out; simp only [List.length_append]; omega)).mono ?_); rintro e w2 ⟨rfl, hI2, hb2, ho2⟩; have HI2 := Lib.hid hI2; have HB2 := Lib.hid (HR.out.2.1.trans (Below.trans ((show Up wr _ by (repeat' (first | (with_reducible first | exact Up.refl _ | assumption | refine Up.alloc ?_ _ | refine Up.drew ?_ | refine Up.drewN ?_ _ | refine Up.setCell ?_ ?_ _ | refine Up.call ?_ (by assumption)) | go_size))).mono (by omega)) hb2)); have HO2 := Lib.hid (HR.out.2.2.1.tr (((OK.refl b wr).upc (show Up wr _ by (repeat' (first | (with_reducible first | exact Up.refl _ | assumption | refine Up.alloc ?_ _ | refine Up.drew ?_ | refine Up.drewN ?_ _ | refine Up.setCell ?_ ?_ _ | refine Up.call ?_ (by assumption)) | go_size)))).tr ho2)); have HX2 := Lib.hid ((HR.out.2.2.2.up (show Up wr _ by (repeat' (first | (with_reducible first | exact Up.refl _ | assumption | refine Up.alloc ?_ _ | refine Up.drew ?_ | refine Up.drewN ?_ _ | refine Up.setCell ?_ ?_ _ | refine Up.call ?_ (by assumption)) | go_size)))).kept ho2 (by omega)); have HXX := Lib.hid ((BoxAt.new wr #[.int .i64 ck, .int .i64 cn, .string ⟨ct.toArray⟩, .slice cka ckl ckc, .slice cla cll clc, .slice cda cdl cdc]).kept ho2 (by omega)); have z2 := HB2.out.size; have HU2 := Lib.hid (up_below HU0.out HB2.out h0); have r0 := HXX.out.cell 0 rfl; have r1 := HXX.out.cell 1 rfl; have r2 := HXX.out.cell 2 rfl; have r3 := HXX.out.cell 3 rfl; have r4 := HXX.out.cell 4 rfl; have r5 := HXX.out.cell 5 rfl; have lr2 := HXX.out.lt; clear hI2 hb2 ho2))
          | (go_at_call 122; ((with_reducible refine (HRC2.out B b (bs ++ arrA f l 0 ++ [91]) _ h0 HU2.out (by omega) HI2.out (by have := HL5.out; simp only [List.length_append, List.length_cons, List.length_nil]; omega)).mono ?_); rintro e w5 ⟨rfl, hI5, hb5, ho5⟩; have HI5 := Lib.hid hI5; have HB5 := Lib.hid (HB2.out.trans hb5); have HO5 := Lib.hid (HO2.out.tr ho5); have HX5 := Lib.hid (HX2.out.kept ho5 (by omega)); clear hI5 hb5 ho5)))
        go_roundw
        case measure => simp [intOf]; omega
        case rel =>
          refine ⟨0 + 1, by omega, by go_num, Lib.hid ⟨?_, HB5.out, HO5.out, HX5.out⟩⟩
          have e9 : bs ++ arrA f l (0 + 1) = bs ++ arrA f l 0 ++ [91] ++ F := by rw [HPS.out]; simp
          rw [e9]; exact HI5.out
      · have mi : min (i : Int) 1 = 1 := by omega
        rw [if_neg hi0] at HPS
        have hi1 : 0 < i := by omega
        clear hi0
        go_wp2_with (first
          | (go_at_call 118; ((refine (wByte B b (bs ++ arrA f l i) 32 _ (by rfl) _ (Lib.IsBuffer.old HR.out.1 (by (repeat' (first | (with_reducible first | exact Up.refl _ | assumption | refine Up.alloc ?_ _ | refine Up.drew ?_ | refine Up.drewN ?_ _ | refine Up.setCell ?_ ?_ _ | refine Up.call ?_ (by assumption)) | go_size)))) (by first | (simp; omega) | omega) (by have := HL5.out; simp only [List.length_append]; omega)).mono ?_); rintro e w2 ⟨rfl, hI2, hb2, ho2⟩; have HI2 := Lib.hid hI2; have HB2 := Lib.hid (HR.out.2.1.trans (Below.trans ((show Up wr _ by (repeat' (first | (with_reducible first | exact Up.refl _ | assumption | refine Up.alloc ?_ _ | refine Up.drew ?_ | refine Up.drewN ?_ _ | refine Up.setCell ?_ ?_ _ | refine Up.call ?_ (by assumption)) | go_size))).mono (by omega)) hb2)); have HO2 := Lib.hid (HR.out.2.2.1.tr (((OK.refl b wr).upc (show Up wr _ by (repeat' (first | (with_reducible first | exact Up.refl _ | assumption | refine Up.alloc ?_ _ | refine Up.drew ?_ | refine Up.drewN ?_ _ | refine Up.setCell ?_ ?_ _ | refine Up.call ?_ (by assumption)) | go_size)))).tr ho2)); have HX2 := Lib.hid ((HR.out.2.2.2.up (show Up wr _ by (repeat' (first | (with_reducible first | exact Up.refl _ | assumption | refine Up.alloc ?_ _ | refine Up.drew ?_ | refine Up.drewN ?_ _ | refine Up.setCell ?_ ?_ _ | refine Up.call ?_ (by assumption)) | go_size)))).kept ho2 (by omega)); have HXX := Lib.hid ((BoxAt.new wr #[.int .i64 ck, .int .i64 cn, .string ⟨ct.toArray⟩, .slice cka ckl ckc, .slice cla cll clc, .slice cda cdl cdc]).kept ho2 (by omega)); have z2 := HB2.out.size; have HU2 := Lib.hid (up_below HU0.out HB2.out h0); have r0 := HXX.out.cell 0 rfl; have r1 := HXX.out.cell 1 rfl; have r2 := HXX.out.cell 2 rfl; have r3 := HXX.out.cell 3 rfl; have r4 := HXX.out.cell 4 rfl; have r5 := HXX.out.cell 5 rfl; have lr2 := HXX.out.lt; clear hI2 hb2 ho2))
          | (go_at_call 122; ((with_reducible refine (HRC2.out B b (bs ++ arrA f l i ++ [32]) _ h0 HU2.out (by omega) HI2.out (by have := HL5.out; simp only [List.length_append, List.length_cons, List.length_nil]; omega)).mono ?_); rintro e w5 ⟨rfl, hI5, hb5, ho5⟩; have HI5 := Lib.hid hI5; have HB5 := Lib.hid (HB2.out.trans hb5); have HO5 := Lib.hid (HO2.out.tr ho5); have HX5 := Lib.hid (HX2.out.kept ho5 (by omega)); clear hI5 hb5 ho5)))
        go_roundw
        case measure => simp [intOf]; omega
        case rel =>
          refine ⟨i + 1, by omega, by go_num, Lib.hid ⟨?_, HB5.out, HO5.out, HX5.out⟩⟩
          have e9 : bs ++ arrA f l (i + 1) = bs ++ arrA f l i ++ [32] ++ F := by rw [HPS.out]; simp
          rw [e9]; exact HI5.out
    · have dlt : decide (i < ll) = false := decide_eq_false hlt
      obtain rfl : ll = i := by omega
      by_cases hz : ll = 0
      · subst hz
        go_wp2_with (first
          | (go_at_call 118; ((with_reducible refine (wByte B b (bs ++ arrA f l 0) 91 91 rfl _ HR.out.1 (by omega) (by have := HLIM.out; have h3 := arr_le f l 0; simp only [List.length_append]; omega)).mono ?_); rintro e w2 ⟨rfl, hI2, hb2, ho2⟩; have HI2 := Lib.hid hI2; have HB2 := Lib.hid (HR.out.2.1.trans hb2); have HO2 := Lib.hid (HR.out.2.2.1.tr ho2); have z2 := HB2.out.size; clear hI2 hb2 ho2))
          | (go_at_call 118; ((with_reducible refine (wByte B b (bs ++ arrA f l 0 ++ [91]) 93 93 rfl _ HI2.out (by omega) (by have := HLIM.out; have h3 := arr_le f l 0; simp only [List.length_append, List.length_cons, List.length_nil]; omega)).mono ?_); rintro e w3 ⟨rfl, hI3, hb3, ho3⟩; have HI3 := Lib.hid hI3; have HB3 := Lib.hid (HB2.out.trans hb3); have HO3 := Lib.hid (HO2.out.tr ho3); clear hI3 hb3 ho3)))
        go_returns
        refine ⟨rfl, ?_, HB3.out, HO3.out⟩
        have e9 : bs ++ 91 :: (elsP f l l.length ++ [93]) = bs ++ arrA f l 0 ++ [91] ++ [93] := by rw [HLN.out]; simp [arrA, elsP]
        rw [e9]; exact HI3.out
      · have dz : ((ll : Int) == 0) = false := by simp; omega
        have HE := Lib.hid (show arrA f l ll = 91 :: elsP f l ll by unfold arrA; rw [if_neg hz])
        have hz1 : 0 < ll := by omega
        clear hz
        go_wp2_with (go_at_call 118; ((with_reducible refine (wByte B b (bs ++ arrA f l ll) 93 93 rfl _ HR.out.1 (by omega) (by have := HLIM.out; have h3 := arr_le f l ll; simp only [List.length_append]; omega)).mono ?_); rintro e w2 ⟨rfl, hI2, hb2, ho2⟩; have HI2 := Lib.hid hI2; have HB2 := Lib.hid (HR.out.2.1.trans hb2); have HO2 := Lib.hid (HR.out.2.2.1.tr ho2); clear hI2 hb2 ho2))
        go_returns
        refine ⟨rfl, ?_, HB2.out, HO2.out⟩
        have e9 : bs ++ 91 :: (elsP f l l.length ++ [93]) = bs ++ arrA f l ll ++ [93] := by rw [HLN.out, HE.out]; simp
        rw [e9]; exact HI2.out

set_option maxRecDepth 8000 in
set_option maxHeartbeats 4000000 in
theorem write_k7 (n : Int) (t : List UInt8) (ka : Option Addr) (kl kc : Nat) (la : Option Addr) (ll lc : Nat) (da : Option Addr) (dl dc : Nat) (ks : List (List UInt8)) (l : List PO) (f : PO → List UInt8) (w0 : World) (hk : Sl 1 kcells w0 ka kl kc ks) (hl : Sl 6 PO.cells w0 la ll lc l) (hkl : kl = ll) (hkb : ∀ s ∈ ks, s.length ≤ 300) (hrec : ∀ c ∈ l, WrC w0 (f c) c.cells.toArray)
    (B b : Nat) (bs : List UInt8) (w : World) (h0 : w0.heap.size ≤ B) (hu : Up w0 w) (hBw : B ≤ w.heap.size) (h : IsBuf B b (Lib.byteCells bs) w) (hlim : bs.length + (dictP f ks l []).length ≤ 140737480000000) :
    Calls Tryz.prog 122 #[.pointer (some ⟨b, 0, none⟩), .agg #[.int .i64 7, .int .i64 n, .string ⟨t.toArray⟩, .slice ka kl kc, .slice la ll lc, .slice da dl dc]] w fun e w' => e = .returned (.tuple #[]) ∧ IsBuf B b (Lib.byteCells (bs ++ dictP f ks l [])) w' ∧ Below B w w' ∧ OK b w w' := by
  have hb := Lib.IsBuffer.lt h
  have HP : Hid (∀ W, Up w W → Calls Tryz.prog 153 #[.pointer (some ⟨b, 0, none⟩), .agg #[.int .i64 7, .int .i64 n, .string ⟨t.toArray⟩, .slice ka kl kc, .slice la ll lc, .slice da dl dc], .string ⟨#[]⟩] W fun e w' => e = .returned (.tuple #[]) ∧ IsBuf B b (Lib.byteCells (bs ++ dictP f ks l [])) w' ∧ Below B W w' ∧ OK b W w') := Lib.hid (fun W hW => pairs_calls f 7 n t ka kl kc ks la ll lc l da dl dc [] (by simp) w0 hk hl hkl hkb hrec B b bs W h0 (hu.call hW) (Nat.le_trans hBw hW.size) (Lib.IsBuffer.old h hW) hlim)
  clear h hk hl hkl hkb hrec hu hlim
  go_enter Tryz.func122, Tryz.ntmps122
  go_wp2_with (go_at_call 153; ((with_reducible refine Calls.mono (HP.out _ ?_) ?_); (focus ((repeat' (first | (with_reducible first | exact Up.refl _ | assumption | refine Up.alloc ?_ _ | refine Up.drew ?_ | refine Up.drewN ?_ _ | refine Up.setCell ?_ ?_ _ | refine Up.call ?_ (by assumption)) | go_size)))); rintro e w9 ⟨rfl, hI9, hb9, ho9⟩; have HI9 := Lib.hid hI9; have HB9 := Lib.hid (Below.trans ((show Up w _ by (repeat' (first | (with_reducible first | exact Up.refl _ | assumption | refine Up.alloc ?_ _ | refine Up.drew ?_ | refine Up.drewN ?_ _ | refine Up.setCell ?_ ?_ _ | refine Up.call ?_ (by assumption)) | go_size))).mono hBw) hb9); have HO9 := Lib.hid (((OK.refl b w).upc (show Up w _ by (repeat' (first | (with_reducible first | exact Up.refl _ | assumption | refine Up.alloc ?_ _ | refine Up.drew ?_ | refine Up.drewN ?_ _ | refine Up.setCell ?_ ?_ _ | refine Up.call ?_ (by assumption)) | go_size)))).tr ho9); clear hI9 hb9 ho9))
  go_returns
  exact ⟨rfl, HI9.out, HB9.out, HO9.out⟩

set_option maxRecDepth 8000 in
set_option maxHeartbeats 4000000 in
theorem write_k9e (n : Int) (t : List UInt8) (ka : Option Addr) (kl kc : Nat) (la : Option Addr) (ll lc : Nat) (da : Option Addr) (dl dc : Nat) (ks : List (List UInt8)) (l : List PO) (d : List UInt8) (f : PO → List UInt8) (w0 : World) (ht : PTab w0) (hk : Sl 1 kcells w0 ka kl kc ks) (hl : Sl 6 PO.cells w0 la ll lc l) (hd : Sl 1 dcells w0 da dl dc d) (hdl : dl ≤ 5000) (hz : dl = 0) (hkl : kl = ll) (hkb : ∀ s ∈ ks, s.length ≤ 300) (hrec : ∀ c ∈ l, WrC w0 (f c) c.cells.toArray)
    (B b : Nat) (bs : List UInt8) (w : World) (h0 : w0.heap.size ≤ B) (hu : Up w0 w) (hBw : B ≤ w.heap.size) (h : IsBuf B b (Lib.byteCells bs) w) (hlim : bs.length + (dictP f ks l (lenP d.length) ++ ([10, 115, 116, 114, 101, 97, 109, 10] ++ (d ++ [10, 101, 110, 100, 115, 116, 114, 101, 97, 109]))).length ≤ 140737480000000) :
    Calls Tryz.prog 122 #[.pointer (some ⟨b, 0, none⟩), .agg #[.int .i64 9, .int .i64 n, .string ⟨t.toArray⟩, .slice ka kl kc, .slice la ll lc, .slice da dl dc]] w fun e w' => e = .returned (.tuple #[]) ∧ IsBuf B b (Lib.byteCells (bs ++ (dictP f ks l (lenP d.length) ++ ([10, 115, 116, 114, 101, 97, 109, 10] ++ (d ++ [10, 101, 110, 100, 115, 116, 114, 101, 97, 109]))))) w' ∧ Below B w w' ∧ OK b w w' := by
  subst hz
  have hb := Lib.IsBuffer.lt h
  have H := Lib.hid h
  have HU0 := Lib.hid hu
  have d1 := hd.1
  have d2 := hd.2.1
  have HD := Lib.hid hd
  have hdn := hd.2.2.1
  rw [hdn] at hlim ⊢
  obtain ⟨L, hL⟩ : ∃ L, intL (0 : Int) = L := ⟨_, rfl⟩
  have HC : Hid (∀ W, Up w W → Calls Tryz.prog 82 #[.int .i64 (0 : Int)] W fun e w' => e = .returned (.string ⟨L.toArray⟩) ∧ Up W w') := Lib.hid (fun W hW => by rw [← hL]; exact itoa_calls (0 : Int) (by omega) (by omega) W (ht.up (hu.call hW)))
  have ll9 : L.length ≤ 101 := by rw [← hL]; exact intL_len (0 : Int) (by omega) (by omega)
  have nl9 : ¬ (9223372036854775807 < 9 + L.length) := by omega
  obtain ⟨M, hM⟩ : ∃ M, lenP 0 = M := ⟨_, rfl⟩
  have HM := Lib.hid (show [32, 47, 76, 101, 110, 103, 116, 104, 32] ++ L = M by rw [← hM, ← hL]; rfl)
  have HST : Hid ((⟨#[32, 47, 76, 101, 110, 103, 116, 104, 32]⟩ : ByteArray) ++ ⟨L.toArray⟩ = ⟨M.toArray⟩) := Lib.hid (by rw [← HM.out]; exact str_app [32, 47, 76, 101, 110, 103, 116, 104, 32] L)
  have mo9 : M.length ≤ 1000 := by rw [← HM.out]; simp; omega
  rw [hM] at hlim ⊢
  obtain ⟨D, hD⟩ : ∃ D, dictP f ks l M = D := ⟨_, rfl⟩
  have HLIM := Lib.hid (show bs.length + D.length + d.length + 18 ≤ 140737480000000 by rw [hD] at hlim; simp only [List.length_append, List.length_cons, List.length_nil] at hlim; omega)
  have HP : Hid (∀ W, Up w W → Calls Tryz.prog 153 #[.pointer (some ⟨b, 0, none⟩), .agg #[.int .i64 9, .int .i64 n, .string ⟨t.toArray⟩, .slice ka kl kc, .slice la ll lc, .slice da 0 dc], .string ⟨M.toArray⟩] W fun e w' => e = .returned (.tuple #[]) ∧ IsBuf B b (Lib.byteCells (bs ++ D)) w' ∧ Below B W w' ∧ OK b W w') := Lib.hid (fun W hW => by rw [← hD]; exact pairs_calls f 9 n t ka kl kc ks la ll lc l da 0 dc M mo9 w0 hk hl hkl hkb hrec B b bs W h0 (hu.call hW) (Nat.le_trans hBw hW.size) (Lib.IsBuffer.old h hW) (by have := HLIM.out; rw [hD]; omega))
  rw [hD]
  have HDN := Lib.hid hdn
  clear h hk hl hkl hkb hrec hu hlim hd ht hL hM hD hdn
  go_enter Tryz.func122, Tryz.ntmps122
  go_wp2
  go_region_law (first
    | (go_simp; go_at_call 82; ((with_reducible refine Calls.mono (HC.out _ ?_) ?_); (focus ((repeat' (first | (with_reducible first | exact Up.refl _ | assumption | refine Up.alloc ?_ _ | refine Up.drew ?_ | refine Up.drewN ?_ _ | refine Up.setCell ?_ ?_ _ | refine Up.call ?_ (by assumption)) | go_size)))); rintro e w1 ⟨rfl, hu1⟩; have HX1 := Lib.hid (BoxAt.up (BoxAt.new w #[.int .i64 9, .int .i64 n, .string ⟨t.toArray⟩, .slice ka kl kc, .slice la ll lc, .slice da 0 dc]) (show Up (w.alloc _) w1 by (repeat' (first | (with_reducible first | exact Up.refl _ | assumption | refine Up.alloc ?_ _ | refine Up.drew ?_ | refine Up.drewN ?_ _ | refine Up.setCell ?_ ?_ _ | refine Up.call ?_ (by assumption)) | go_size)))); have x0 := HX1.out.cell 0 rfl; have x1 := HX1.out.cell 1 rfl; have x2 := HX1.out.cell 2 rfl; have x3 := HX1.out.cell 3 rfl; have x4 := HX1.out.cell 4 rfl; have x5 := HX1.out.cell 5 rfl; have lx1 := HX1.out.lt))
    | (go_simp; go_at_call 153; ((with_reducible rw [HST.out]); (with_reducible refine Calls.mono (HP.out _ ?_) ?_); (focus ((repeat' (first | (with_reducible first | exact Up.refl _ | assumption | refine Up.alloc ?_ _ | refine Up.drew ?_ | refine Up.drewN ?_ _ | refine Up.setCell ?_ ?_ _ | refine Up.call ?_ (by assumption)) | go_size)))); rintro e w2 ⟨rfl, hI2, hb2, ho2⟩; have HI2 := Lib.hid hI2; have HB2 := Lib.hid (Below.trans ((show Up w _ by (repeat' (first | (with_reducible first | exact Up.refl _ | assumption | refine Up.alloc ?_ _ | refine Up.drew ?_ | refine Up.drewN ?_ _ | refine Up.setCell ?_ ?_ _ | refine Up.call ?_ (by assumption)) | go_size))).mono hBw) hb2); have HO2 := Lib.hid (((OK.refl b w).upc (show Up w _ by (repeat' (first | (with_reducible first | exact Up.refl _ | assumption | refine Up.alloc ?_ _ | refine Up.drew ?_ | refine Up.drewN ?_ _ | refine Up.setCell ?_ ?_ _ | refine Up.call ?_ (by assumption)) | go_size)))).tr ho2); have HX2 := Lib.hid ((BoxAt.up (BoxAt.new w #[.int .i64 9, .int .i64 n, .string ⟨t.toArray⟩, .slice ka kl kc, .slice la ll lc, .slice da 0 dc]) (show Up (w.alloc _) _ by (repeat' (first | (with_reducible first | exact Up.refl _ | assumption | refine Up.alloc ?_ _ | refine Up.drew ?_ | refine Up.drewN ?_ _ | refine Up.setCell ?_ ?_ _ | refine Up.call ?_ (by assumption)) | go_size)))).kept ho2 (by omega)); have z2 := HB2.out.size; have q52 := HX2.out.cell 5 rfl; have lq2 := HX2.out.lt; have HU2 := Lib.hid (up_below HU0.out HB2.out h0); clear hI2 hb2 ho2)))
  all_goals
    go_wp2_with (first
      | (go_at_call 48; ((with_reducible refine (wStr B b (bs ++ D) [10, 115, 116, 114, 101, 97, 109, 10] _ HI2.out (by omega) (by have := HLIM.out; simp only [List.length_append, List.length_cons, List.length_nil]; omega)).mono ?_); rintro e w3 ⟨rfl, hI3, hb3, ho3⟩; have HI3 := Lib.hid hI3; have HB3 := Lib.hid (HB2.out.trans hb3); have HO3 := Lib.hid (HO2.out.tr ho3); have HX3 := Lib.hid (HX2.out.kept ho3 (by omega)); have z3 := HB3.out.size; have HU3 := Lib.hid (up_below HU0.out HB3.out h0); have q53 := HX3.out.cell 5 rfl; have lq3 := HX3.out.lt; clear hI3 hb3 ho3))
      | (go_at_call 84; ((with_reducible refine (wNil B b (bs ++ D ++ [10, 115, 116, 114, 101, 97, 109, 10]) _ _ d2 _ HI3.out (by omega) (by have := HLIM.out; simp only [List.length_append, List.length_cons, List.length_nil]; omega) (by simp)).mono ?_); rintro e w4 ⟨rfl, hI4, hb4, ho4⟩; have HI4 := Lib.hid hI4; have HB4 := Lib.hid (HB3.out.trans hb4); have HO4 := Lib.hid (HO3.out.tr ho4); have HX4 := Lib.hid (HX3.out.kept ho4 (by omega)); have z4 := HB4.out.size; have HU4 := Lib.hid (up_below HU0.out HB4.out h0); have q54 := HX4.out.cell 5 rfl; have lq4 := HX4.out.lt; clear hI4 hb4 ho4))
      | (go_at_call 48; ((with_reducible refine (wStr B b (bs ++ D ++ [10, 115, 116, 114, 101, 97, 109, 10]) [10, 101, 110, 100, 115, 116, 114, 101, 97, 109] _ HI4.out (by omega) (by have := HLIM.out; simp only [List.length_append, List.length_cons, List.length_nil]; omega)).mono ?_); rintro e w5 ⟨rfl, hI5, hb5, ho5⟩; have HI5 := Lib.hid hI5; have HB5 := Lib.hid (HB4.out.trans hb5); have HO5 := Lib.hid (HO4.out.tr ho5); have HX5 := Lib.hid (HX4.out.kept ho5 (by omega)); have z5 := HB5.out.size; have HU5 := Lib.hid (up_below HU0.out HB5.out h0); have q55 := HX5.out.cell 5 rfl; have lq5 := HX5.out.lt; clear hI5 hb5 ho5)))
    go_returns
    refine ⟨rfl, ?_, HB5.out, HO5.out⟩
    have hd0 : d = [] := List.eq_nil_of_length_eq_zero (by rw [HDN.out])
    rw [hd0]
    have e9 : bs ++ (D ++ ([10, 115, 116, 114, 101, 97, 109, 10] ++ (([] : List UInt8) ++ [10, 101, 110, 100, 115, 116, 114, 101, 97, 109]))) = bs ++ D ++ [10, 115, 116, 114, 101, 97, 109, 10] ++ [10, 101, 110, 100, 115, 116, 114, 101, 97, 109] := by simp
    exact Eq.mp (congrArg (fun z => IsBuf B b (Lib.byteCells z) w5) e9.symm) HI5.out

set_option maxRecDepth 8000 in
set_option maxHeartbeats 4000000 in
theorem write_k9 (n : Int) (t : List UInt8) (ka : Option Addr) (kl kc : Nat) (la : Option Addr) (ll lc : Nat) (da : Option Addr) (dl dc : Nat) (ks : List (List UInt8)) (l : List PO) (d : List UInt8) (f : PO → List UInt8) (w0 : World) (ht : PTab w0) (hk : Sl 1 kcells w0 ka kl kc ks) (hl : Sl 6 PO.cells w0 la ll lc l) (hd : Sl 1 dcells w0 da dl dc d) (hdl : dl ≤ 5000) (hz : 0 < dl) (hkl : kl = ll) (hkb : ∀ s ∈ ks, s.length ≤ 300) (hrec : ∀ c ∈ l, WrC w0 (f c) c.cells.toArray)
    (B b : Nat) (bs : List UInt8) (w : World) (h0 : w0.heap.size ≤ B) (hu : Up w0 w) (hBw : B ≤ w.heap.size) (h : IsBuf B b (Lib.byteCells bs) w) (hlim : bs.length + (dictP f ks l (lenP d.length) ++ ([10, 115, 116, 114, 101, 97, 109, 10] ++ (d ++ [10, 101, 110, 100, 115, 116, 114, 101, 97, 109]))).length ≤ 140737480000000) :
    Calls Tryz.prog 122 #[.pointer (some ⟨b, 0, none⟩), .agg #[.int .i64 9, .int .i64 n, .string ⟨t.toArray⟩, .slice ka kl kc, .slice la ll lc, .slice da dl dc]] w fun e w' => e = .returned (.tuple #[]) ∧ IsBuf B b (Lib.byteCells (bs ++ (dictP f ks l (lenP d.length) ++ ([10, 115, 116, 114, 101, 97, 109, 10] ++ (d ++ [10, 101, 110, 100, 115, 116, 114, 101, 97, 109]))))) w' ∧ Below B w w' ∧ OK b w w' := by
  have hb := Lib.IsBuffer.lt h
  have H := Lib.hid h
  have HU0 := Lib.hid hu
  have d1 := hd.1
  have d2 := hd.2.1
  have HD := Lib.hid hd
  have hdn := hd.2.2.1
  rw [hdn] at hlim ⊢
  obtain ⟨L, hL⟩ : ∃ L, intL (dl : Int) = L := ⟨_, rfl⟩
  have HC : Hid (∀ W, Up w W → Calls Tryz.prog 82 #[.int .i64 (dl : Int)] W fun e w' => e = .returned (.string ⟨L.toArray⟩) ∧ Up W w') := Lib.hid (fun W hW => by rw [← hL]; exact itoa_calls (dl : Int) (by omega) (by omega) W (ht.up (hu.call hW)))
  have ll9 : L.length ≤ 101 := by rw [← hL]; exact intL_len (dl : Int) (by omega) (by omega)
  have nl9 : ¬ (9223372036854775807 < 9 + L.length) := by omega
  obtain ⟨M, hM⟩ : ∃ M, lenP dl = M := ⟨_, rfl⟩
  have HM := Lib.hid (show [32, 47, 76, 101, 110, 103, 116, 104, 32] ++ L = M by rw [← hM, ← hL]; rfl)
  have HST : Hid ((⟨#[32, 47, 76, 101, 110, 103, 116, 104, 32]⟩ : ByteArray) ++ ⟨L.toArray⟩ = ⟨M.toArray⟩) := Lib.hid (by rw [← HM.out]; exact str_app [32, 47, 76, 101, 110, 103, 116, 104, 32] L)
  have mo9 : M.length ≤ 1000 := by rw [← HM.out]; simp; omega
  rw [hM] at hlim ⊢
  obtain ⟨D, hD⟩ : ∃ D, dictP f ks l M = D := ⟨_, rfl⟩
  have HLIM := Lib.hid (show bs.length + D.length + d.length + 18 ≤ 140737480000000 by rw [hD] at hlim; simp only [List.length_append, List.length_cons, List.length_nil] at hlim; omega)
  have HP : Hid (∀ W, Up w W → Calls Tryz.prog 153 #[.pointer (some ⟨b, 0, none⟩), .agg #[.int .i64 9, .int .i64 n, .string ⟨t.toArray⟩, .slice ka kl kc, .slice la ll lc, .slice da dl dc], .string ⟨M.toArray⟩] W fun e w' => e = .returned (.tuple #[]) ∧ IsBuf B b (Lib.byteCells (bs ++ D)) w' ∧ Below B W w' ∧ OK b W w') := Lib.hid (fun W hW => by rw [← hD]; exact pairs_calls f 9 n t ka kl kc ks la ll lc l da dl dc M mo9 w0 hk hl hkl hkb hrec B b bs W h0 (hu.call hW) (Nat.le_trans hBw hW.size) (Lib.IsBuffer.old h hW) (by have := HLIM.out; rw [hD]; omega))
  rw [hD]
  obtain ⟨g, o, rfl, hg, hdc⟩ := hd.2.2.2.2 hz
  have HDD : Hid (∀ W, Up w0 W → ∀ (j : Nat) (x : UInt8), d[j]? = some x → W.cell? ⟨g, o + j, none⟩ = some (.int .u8 (x.toNat : Int))) := Lib.hid (fun W hW j x hx => (hW.cells.1 g _ hg).trans (by have := hdc j x 0 _ hx rfl; simpa using this))
  have HDN := Lib.hid hdn
  clear hdc h hk hl hkl hkb hrec hu hlim hd ht hL hM hD hdn
  go_enter Tryz.func122, Tryz.ntmps122
  go_wp2
  go_region_law (first
    | (go_simp; go_at_call 82; ((with_reducible refine Calls.mono (HC.out _ ?_) ?_); (focus ((repeat' (first | (with_reducible first | exact Up.refl _ | assumption | refine Up.alloc ?_ _ | refine Up.drew ?_ | refine Up.drewN ?_ _ | refine Up.setCell ?_ ?_ _ | refine Up.call ?_ (by assumption)) | go_size)))); rintro e w1 ⟨rfl, hu1⟩; have HX1 := Lib.hid (BoxAt.up (BoxAt.new w #[.int .i64 9, .int .i64 n, .string ⟨t.toArray⟩, .slice ka kl kc, .slice la ll lc, .slice (some ⟨g, o, none⟩) dl dc]) (show Up (w.alloc _) w1 by (repeat' (first | (with_reducible first | exact Up.refl _ | assumption | refine Up.alloc ?_ _ | refine Up.drew ?_ | refine Up.drewN ?_ _ | refine Up.setCell ?_ ?_ _ | refine Up.call ?_ (by assumption)) | go_size)))); have x0 := HX1.out.cell 0 rfl; have x1 := HX1.out.cell 1 rfl; have x2 := HX1.out.cell 2 rfl; have x3 := HX1.out.cell 3 rfl; have x4 := HX1.out.cell 4 rfl; have x5 := HX1.out.cell 5 rfl; have lx1 := HX1.out.lt))
    | (go_simp; go_at_call 153; ((with_reducible rw [HST.out]); (with_reducible refine Calls.mono (HP.out _ ?_) ?_); (focus ((repeat' (first | (with_reducible first | exact Up.refl _ | assumption | refine Up.alloc ?_ _ | refine Up.drew ?_ | refine Up.drewN ?_ _ | refine Up.setCell ?_ ?_ _ | refine Up.call ?_ (by assumption)) | go_size)))); rintro e w2 ⟨rfl, hI2, hb2, ho2⟩; have HI2 := Lib.hid hI2; have HB2 := Lib.hid (Below.trans ((show Up w _ by (repeat' (first | (with_reducible first | exact Up.refl _ | assumption | refine Up.alloc ?_ _ | refine Up.drew ?_ | refine Up.drewN ?_ _ | refine Up.setCell ?_ ?_ _ | refine Up.call ?_ (by assumption)) | go_size))).mono hBw) hb2); have HO2 := Lib.hid (((OK.refl b w).upc (show Up w _ by (repeat' (first | (with_reducible first | exact Up.refl _ | assumption | refine Up.alloc ?_ _ | refine Up.drew ?_ | refine Up.drewN ?_ _ | refine Up.setCell ?_ ?_ _ | refine Up.call ?_ (by assumption)) | go_size)))).tr ho2); have HX2 := Lib.hid ((BoxAt.up (BoxAt.new w #[.int .i64 9, .int .i64 n, .string ⟨t.toArray⟩, .slice ka kl kc, .slice la ll lc, .slice (some ⟨g, o, none⟩) dl dc]) (show Up (w.alloc _) _ by (repeat' (first | (with_reducible first | exact Up.refl _ | assumption | refine Up.alloc ?_ _ | refine Up.drew ?_ | refine Up.drewN ?_ _ | refine Up.setCell ?_ ?_ _ | refine Up.call ?_ (by assumption)) | go_size)))).kept ho2 (by omega)); have z2 := HB2.out.size; have q52 := HX2.out.cell 5 rfl; have lq2 := HX2.out.lt; have HU2 := Lib.hid (up_below HU0.out HB2.out h0); clear hI2 hb2 ho2)))
  all_goals
    go_wp2_with (first
      | (go_at_call 48; ((with_reducible refine (wStr B b (bs ++ D) [10, 115, 116, 114, 101, 97, 109, 10] _ HI2.out (by omega) (by have := HLIM.out; simp only [List.length_append, List.length_cons, List.length_nil]; omega)).mono ?_); rintro e w3 ⟨rfl, hI3, hb3, ho3⟩; have HI3 := Lib.hid hI3; have HB3 := Lib.hid (HB2.out.trans hb3); have HO3 := Lib.hid (HO2.out.tr ho3); have HX3 := Lib.hid (HX2.out.kept ho3 (by omega)); have z3 := HB3.out.size; have HU3 := Lib.hid (up_below HU0.out HB3.out h0); have q53 := HX3.out.cell 5 rfl; have lq3 := HX3.out.lt; clear hI3 hb3 ho3))
      | (go_at_call 84; ((with_reducible refine (wBytes B b (bs ++ D ++ [10, 115, 116, 114, 101, 97, 109, 10]) g o dl dc d _ HI3.out (by omega) HDN.out (by omega) (HDD.out _ HU3.out) (by have := HLIM.out; have := HDN.out; simp only [List.length_append, List.length_cons, List.length_nil]; omega)).mono ?_); rintro e w4 ⟨rfl, hI4, hb4, ho4⟩; have HI4 := Lib.hid hI4; have HB4 := Lib.hid (HB3.out.trans hb4); have HO4 := Lib.hid (HO3.out.tr ho4); have HX4 := Lib.hid (HX3.out.kept ho4 (by omega)); have z4 := HB4.out.size; have HU4 := Lib.hid (up_below HU0.out HB4.out h0); have q54 := HX4.out.cell 5 rfl; have lq4 := HX4.out.lt; clear hI4 hb4 ho4))
      | (go_at_call 48; ((with_reducible refine (wStr B b (bs ++ D ++ [10, 115, 116, 114, 101, 97, 109, 10] ++ d) [10, 101, 110, 100, 115, 116, 114, 101, 97, 109] _ HI4.out (by omega) (by have := HLIM.out; simp only [List.length_append, List.length_cons, List.length_nil]; omega)).mono ?_); rintro e w5 ⟨rfl, hI5, hb5, ho5⟩; have HI5 := Lib.hid hI5; have HB5 := Lib.hid (HB4.out.trans hb5); have HO5 := Lib.hid (HO4.out.tr ho5); have HX5 := Lib.hid (HX4.out.kept ho5 (by omega)); have z5 := HB5.out.size; have HU5 := Lib.hid (up_below HU0.out HB5.out h0); have q55 := HX5.out.cell 5 rfl; have lq5 := HX5.out.lt; clear hI5 hb5 ho5)))
    go_returns
    refine ⟨rfl, ?_, HB5.out, HO5.out⟩
    have e9 : bs ++ (D ++ ([10, 115, 116, 114, 101, 97, 109, 10] ++ (d ++ [10, 101, 110, 100, 115, 116, 114, 101, 97, 109]))) = bs ++ D ++ [10, 115, 116, 114, 101, 97, 109, 10] ++ d ++ [10, 101, 110, 100, 115, 116, 114, 101, 97, 109] := by simp
    exact Eq.mp (congrArg (fun z => IsBuf B b (Lib.byteCells z) w5) e9.symm) HI5.out

end Go.Proofs.YtpellcdggaeppaaGreatDoor.Pob
end

section
namespace Go.Proofs.YtpellcdggaeppaaGreatDoor.Pob
open Go.ChangeShapes Go.WideShapes Go.RowKit Go.Shelf
set_option linter.unusedVariables false
set_option linter.unusedSimpArgs false

theorem leaf_write {w0 : World} {o : PO} (h : POk w0 o) (ht : o.t.length ≤ 70000) (hs : leafR o = true) (hp : PTab w0) : WrC w0 (leafP o) o.cells.toArray := by
  obtain ⟨k, n, t, ka, kl, kc, ks, la, ll, lc, l, da, dl, dc, d⟩ := o
  have ht2 : t.length ≤ 70000 := ht
  intro B b bs w h0 hu hBw hI hlim
  show Calls _ _ #[_, .agg #[.int .i64 k, .int .i64 n, .string ⟨t.toArray⟩, .slice ka kl kc, .slice la ll lc, .slice da dl dc]] _ _
  have hpw := hp.up hu
  by_cases k0 : k = 0
  · subst k0; exact write_k0 n t ka kl kc la ll lc da dl dc B b bs w hBw hI (by omega)
  by_cases k1 : k = 1
  · subst k1
    by_cases hn : n = 1
    · rw [show leafP (.mk 1 n t ka kl kc ks la ll lc l da dl dc d) = [116, 114, 117, 101] by simp [leafP, hn]]
      exact write_k1t n t ka kl kc la ll lc da dl dc hn B b bs w hBw hI (by omega)
    · rw [show leafP (.mk 1 n t ka kl kc ks la ll lc l da dl dc d) = [102, 97, 108, 115, 101] by simp [leafP, hn]]
      exact write_k1f n t ka kl kc la ll lc da dl dc hn B b bs w hBw hI (by omega)
  by_cases k2 : k = 2
  · subst k2
    have hs2 : (bareC n t kl ll dl true false false false false && decide (-2147483648 ≤ n) && decide (n ≤ 2147483647)) = true := hs
    simp only [Bool.and_eq_true, decide_eq_true_eq] at hs2
    exact write_k2 n t ka kl kc la ll lc da dl dc hs2.1.2 hs2.2 B b bs w hpw hBw hI (by omega)
  by_cases k3 : k = 3
  · subst k3
    have hs2 : (bareC n t kl ll dl true false false false false && (decide (-2147483648 ≤ n) && decide (n ≤ 2147483647))) = true := hs
    simp only [Bool.and_eq_true, decide_eq_true_eq] at hs2
    exact write_k3 n t ka kl kc la ll lc da dl dc hs2.2.1 hs2.2.2 B b bs w hBw hI (by omega)
  by_cases k4 : k = 4
  · subst k4; exact write_k4 n t ka kl kc la ll lc da dl dc B b bs w hBw hI (by omega)
  by_cases k5 : k = 5
  · subst k5; exact write_k5 n t ka kl kc la ll lc da dl dc B b bs w hBw hI (by omega)
  by_cases k8 : k = 8
  · subst k8
    have hs2 : (bareC n t kl ll dl true false false false false && decide (1 ≤ n) && decide (n ≤ 4096)) = true := hs
    simp only [Bool.and_eq_true, decide_eq_true_eq] at hs2
    exact write_k8 n t ka kl kc la ll lc da dl dc (by omega) (by omega) B b bs w hpw hBw hI (by omega)
  exfalso
  have hs2 : leafR (.mk k n t ka kl kc ks la ll lc l da dl dc d) = false := by simp only [leafR, if_neg k0, if_neg k1, if_neg k2, if_neg k3, if_neg k4, if_neg k5, if_neg k8]
  rw [hs] at hs2
  cases hs2
theorem prn_leaf (m : Nat) {o : PO} (h : ¬ (o.k = 6 ∨ o.k = 7 ∨ o.k = 9)) : prn m o = leafP o := by
  simp only [not_or] at h
  cases m with
  | zero => rfl
  | succ m => simp only [prn, if_neg h.1, if_neg h.2.1, if_neg h.2.2]
theorem snd_leaf (m : Nat) {s : Bool} {o : PO} (h : ¬ (o.k = 6 ∨ o.k = 7 ∨ o.k = 9)) : sndR m s o = leafR o := by
  cases m with
  | zero => rfl
  | succ m => simp only [sndR, node_leaf (s := s) h, Bool.false_and, Bool.or_false]
theorem write_all : ∀ (m : Nat) (s : Bool) (j : Nat) (o : PO) (w0 : World), POk w0 o → lightR j o = true → sndR m s o = true → PTab w0 → WrC w0 (prn m o) o.cells.toArray := by
  intro m
  induction m with
  | zero =>
    intro s j o w0 h hj hs hp
    obtain ⟨j, rfl, j1, j2, j3, j4, j5, j6⟩ := lightR_elim hj
    exact leaf_write h j3 hs hp
  | succ m ih =>
    intro s j o w0 h hj hs hp
    obtain ⟨j, rfl, j1, j2, j3, j4, j5, j6⟩ := lightR_elim hj
    by_cases hn : o.k = 6 ∨ o.k = 7 ∨ o.k = 9
    · have hs2 : (nodeR s o && o.l.all (sndR m false)) = true := by
        have := hs
        simp only [sndR, leaf_node hn, Bool.false_or] at this
        exact this
      rw [Bool.and_eq_true, List.all_eq_true] at hs2
      obtain ⟨hs3, hs4⟩ := hs2
      cases h with
      | mk k n t ka kl kc ks la ll lc l da dl dc d hnw hk hl hc hd =>
      have hrec : ∀ c ∈ l, WrC w0 (prn m c) c.cells.toArray := fun c hm => ih false j c w0 (hc c hm) (j6 c hm) (hs4 c hm) hp
      have j5 : ∀ x ∈ ks, x.length ≤ 300 := j5
      have j8 : dl ≤ 5000 := by rw [← hd.2.2.1]; exact j4
      have hn2 : k = 6 ∨ k = 7 ∨ k = 9 := hn
      intro B b bs w h0 hu hBw hI hlim
      show Calls _ _ #[_, .agg #[.int .i64 k, .int .i64 n, .string ⟨t.toArray⟩, .slice ka kl kc, .slice la ll lc, .slice da dl dc]] _ _
      rcases hn2 with rfl | rfl | rfl
      · rw [show prn (m + 1) (.mk 6 n t ka kl kc ks la ll lc l da dl dc d) = 91 :: (elsP (prn m) l l.length ++ [93]) by simp [prn, PO.k, PO.l]] at hlim ⊢
        exact write_k6 n t ka kl kc la ll lc da dl dc l (prn m) w0 hl hrec B b bs w h0 hu hBw hI (by simp only [List.length_cons, List.length_append, List.length_nil] at hlim; omega)
      · rw [show prn (m + 1) (.mk 7 n t ka kl kc ks la ll lc l da dl dc d) = dictP (prn m) ks l [] by simp [prn, PO.k, PO.l, PO.ks]] at hlim ⊢
        have hs5 : (bareC n t kl ll dl false false true true false && decide (kl = ll) && distR ks) = true := hs3
        simp only [Bool.and_eq_true, decide_eq_true_eq] at hs5
        exact write_k7 n t ka kl kc la ll lc da dl dc ks l (prn m) w0 hk hl hs5.1.2 j5 hrec B b bs w h0 hu hBw hI hlim
      · rw [show prn (m + 1) (.mk 9 n t ka kl kc ks la ll lc l da dl dc d) = (dictP (prn m) ks l (lenP d.length) ++ ([10, 115, 116, 114, 101, 97, 109, 10] ++ (d ++ [10, 101, 110, 100, 115, 116, 114, 101, 97, 109]))) by simp [prn, PO.k, PO.l, PO.ks, PO.d]] at hlim ⊢
        have hs5 : (s && (bareC n t kl ll dl false false true true true && decide (kl = ll) && distR ks && !ks.contains lenKey)) = true := hs3
        simp only [Bool.and_eq_true, decide_eq_true_eq] at hs5
        by_cases hz : dl = 0
        · exact write_k9e n t ka kl kc la ll lc da dl dc ks l d (prn m) w0 hp hk hl hd j8 hz hs5.2.1.1.2 j5 hrec B b bs w h0 hu hBw hI hlim
        · exact write_k9 n t ka kl kc la ll lc da dl dc ks l d (prn m) w0 hp hk hl hd j8 (by omega) hs5.2.1.1.2 j5 hrec B b bs w h0 hu hBw hI hlim
    · rw [prn_leaf _ hn]
      rw [snd_leaf _ hn] at hs
      exact leaf_write h j3 hs hp
theorem prn_ne (m : Nat) (o : PO) : prn m o ≠ [] := by
  have hL : leafP o ≠ [] := by
    obtain ⟨k, n, t, ka, kl, kc, ks, la, ll, lc, l, da, dl, dc, d⟩ := o
    have hi : intL n ≠ [] := by unfold intL; split <;> simp [decL_ne]
    have hr : prR n ≠ [] := by
      unfold prR
      split
      · simp
      · unfold prP prM
        split
        · simp
        · intro h
          exact decL_ne _ (List.append_eq_nil_iff.1 h).1
    simp only [leafP]
    repeat' split
    all_goals first | (simp; done) | assumption | (simp [hi]; done)
  cases m with
  | zero => exact hL
  | succ m =>
    simp only [prn]
    repeat' split
    all_goals first | exact hL | simp [dictP]

set_option maxRecDepth 8000 in
set_option maxHeartbeats 1000000 in
theorem pprint_ok (j : Nat) (o : PO) (w : World) (h : POk w o) (hj : lightR j o = true) (hs : sndR 32 true o = true) (hp : PTab w) (hlen : (prn 32 o).length ≤ 140737480000000) :
    Calls Tryz.prog 83 #[.agg o.cells.toArray] w fun e w' => ∃ v, e = .returned (.tuple #[v, .int .i64 0]) ∧ BytesAt w' v (prn 32 o) ∧ Up w w' := by
  have HS : Hid (∀ W, Up w W → Calls Tryz.prog 121 #[.agg o.cells.toArray] W fun e w' => e = .returned (.bool true) ∧ Up W w') := Lib.hid (fun W hu => by rw [← hs]; exact pSound_calls j o W (h.up hu) hj)
  have HW := Lib.hid (fun (W : World) (hu : Up w W) => write_all 32 true j o W (h.up hu) hj hs (hp.up hu))
  obtain ⟨R, hR⟩ : ∃ R, prn 32 o = R := ⟨_, rfl⟩
  have HNE := Lib.hid (show R ≠ [] by rw [← hR]; exact prn_ne 32 o)
  rw [hR] at HW hlen ⊢
  clear hR h hj hs hp
  obtain ⟨k, n, t, ka, kl, kc, ks, la, ll, lc, l, da, dl, dc, d⟩ := o
  have HS2 : Hid (∀ W, Up w W → Calls Tryz.prog 121 #[.agg #[.int .i64 k, .int .i64 n, .string ⟨t.toArray⟩, .slice ka kl kc, .slice la ll lc, .slice da dl dc]] W fun e w' => e = .returned (.bool true) ∧ Up W w') := HS
  have HW2 : Hid (∀ W, Up w W → WrC W R #[.int .i64 k, .int .i64 n, .string ⟨t.toArray⟩, .slice ka kl kc, .slice la ll lc, .slice da dl dc]) := HW
  show Calls _ _ #[.agg #[.int .i64 k, .int .i64 n, .string ⟨t.toArray⟩, .slice ka kl kc, .slice la ll lc, .slice da dl dc]] _ _
  clear HS HW
  go_enter Tryz.func83, Tryz.ntmps83
  go_wp2_with (first
    | (go_at_call 121; ((with_reducible refine Calls.mono (HS2.out _ ?_) ?_); (focus ((repeat' (first | (with_reducible first | exact Up.refl _ | assumption | refine Up.alloc ?_ _ | refine Up.drew ?_ | refine Up.drewN ?_ _ | refine Up.setCell ?_ ?_ _ | refine Up.call ?_ (by assumption)) | go_size)))); rintro e w1 ⟨rfl, hu1⟩; have k_w1 := hu1.cells.1; have f_w1 := hu1.cells.2; have z_w1 := hu1.size; (try simp at z_w1); have l0_w1 : w.heap.size < w1.heap.size := (by omega)))
    | (go_at_call 122; ((refine Calls.mono (HW2.out w1 (by (repeat' (first | (with_reducible first | exact Up.refl _ | assumption | refine Up.alloc ?_ _ | refine Up.drew ?_ | refine Up.drewN ?_ _ | refine Up.setCell ?_ ?_ _ | refine Up.call ?_ (by assumption)) | go_size))) w1.heap.size w1.heap.size [] _ (Nat.le_refl _) (Up.alloc (Up.refl w1) _) (by simp) (Lib.fresh_isBuffer 67 5 w1) (by simp; omega)) ?_); rintro e w2 ⟨rfl, hI, hb, hok⟩; have HI := Lib.hid hI; have HU := Lib.hid (show Up w w2 from (show Up w w1 by (repeat' (first | (with_reducible first | exact Up.refl _ | assumption | refine Up.alloc ?_ _ | refine Up.drew ?_ | refine Up.drewN ?_ _ | refine Up.setCell ?_ ?_ _ | refine Up.call ?_ (by assumption)) | go_size))).call ((Up.alloc (Up.refl w1) _).trans hb)); clear hI hb hok))
    | (go_at_call 23; ((with_reducible refine (Tryz.Buffer_Bytes w1.heap.size w1.heap.size _ _ HI.out).mono ?_); rintro e w3 ⟨v, rfl, hown, n, hw3⟩; have HO := Lib.hid hown; have HU3 := Lib.hid (show Up w w3 by rw [hw3]; exact HU.out.drewN n); clear hown hw3)))
  go_returns
  refine ⟨v, rfl, ?_, HU3.out⟩
  have h9 : w3.ownsRow w1.heap.size 5 1 v R.length (Lib.byteCells R) := by
    have := HO.out
    rw [List.nil_append, Lib.byteCells_length] at this
    exact this
  obtain ⟨g, cap, rfl, -, h1, h2, h3, h4, h5⟩ := owns_some h9 (fun e => by
    subst e
    rcases h9.2 with ⟨_, h0⟩ | ⟨g, cap, cur, h0, _⟩
    · exact HNE.out (List.eq_nil_of_length_eq_zero h0)
    · cases h0)
  exact ⟨g, cap, rfl, h1, h2, h3, fun j hj => h5 j _ (byteCells_get _ j hj)⟩

set_option maxRecDepth 8000 in
theorem pprint_bad (j : Nat) (o : PO) (w : World) (h : POk w o) (hj : lightR j o = true) (hs : sndR 32 true o = false) :
    Calls Tryz.prog 83 #[.agg o.cells.toArray] w fun e w' => e = .returned (.tuple #[.slice none 0 0, .int .i64 22]) ∧ Up w w' := by
  have HS : Hid (∀ W, Up w W → Calls Tryz.prog 121 #[.agg o.cells.toArray] W fun e w' => e = .returned (.bool false) ∧ Up W w') := Lib.hid (fun W hu => by rw [← hs]; exact pSound_calls j o W (h.up hu) hj)
  obtain ⟨k, n, t, ka, kl, kc, ks, la, ll, lc, l, da, dl, dc, d⟩ := o
  have HS2 : Hid (∀ W, Up w W → Calls Tryz.prog 121 #[.agg #[.int .i64 k, .int .i64 n, .string ⟨t.toArray⟩, .slice ka kl kc, .slice la ll lc, .slice da dl dc]] W fun e w' => e = .returned (.bool false) ∧ Up W w') := HS
  show Calls _ _ #[.agg #[.int .i64 k, .int .i64 n, .string ⟨t.toArray⟩, .slice ka kl kc, .slice la ll lc, .slice da dl dc]] _ _
  clear HS h hj hs
  go_enter Tryz.func83, Tryz.ntmps83
  go_wp2_with (first
    | (go_at_call 121; ((with_reducible refine Calls.mono (HS2.out _ ?_) ?_); (focus ((repeat' (first | (with_reducible first | exact Up.refl _ | assumption | refine Up.alloc ?_ _ | refine Up.drew ?_ | refine Up.drewN ?_ _ | refine Up.setCell ?_ ?_ _ | refine Up.call ?_ (by assumption)) | go_size)))); rintro e w1 ⟨rfl, hu1⟩; have k_w1 := hu1.cells.1; have f_w1 := hu1.cells.2; have z_w1 := hu1.size; (try simp at z_w1); have l0_w1 : w.heap.size < w1.heap.size := (by omega))))
  go_returns
  exact ⟨rfl, by (repeat' (first | (with_reducible first | exact Up.refl _ | assumption | refine Up.alloc ?_ _ | refine Up.drew ?_ | refine Up.drewN ?_ _ | refine Up.setCell ?_ ?_ _ | refine Up.call ?_ (by assumption)) | go_size))⟩
end Go.Proofs.YtpellcdggaeppaaGreatDoor.Pob
end
