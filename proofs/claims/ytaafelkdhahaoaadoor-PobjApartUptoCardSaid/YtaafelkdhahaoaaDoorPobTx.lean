/- Package pobj's text of a string. Its condition: lengths that a buffer bears. -/
import Derived.Test.YtaafelkdhahaoaaDoorPobJ
import Derived.Test.YtaafelkdhahaoaaDoorPobX
namespace Go.Proofs.YtaafelkdhahaoaaDoor.Pob
open Go.ChangeShapes Go.WideShapes Go.RowKit Go.Shelf
set_option linter.unusedVariables false
set_option linter.unusedSimpArgs false


/-- a string's byte as it is written -/
def txtB (c : UInt8) : List UInt8 := if c = 40 ∨ c = 41 ∨ c = 92 then [92, c] else if c.toNat < 32 ∨ 126 < c.toNat then [92, UInt8.ofNat (48 + c.toNat / 64), UInt8.ofNat (48 + c.toNat / 8 % 8), UInt8.ofNat (48 + c.toNat % 8)] else [c]
def txt (l : List UInt8) : List UInt8 := l.flatMap txtB
theorem txt_snoc (l : List UInt8) (c : UInt8) : txt (l ++ [c]) = txt l ++ txtB c := by simp [txt]
theorem txtB_len (c : UInt8) : (txtB c).length ≤ 4 := by unfold txtB; split <;> (try split) <;> simp
theorem txt_len : ∀ l : List UInt8, (txt l).length ≤ 4 * l.length
  | [] => by simp [txt]
  | c :: l => by
    have := txt_len l
    have := txtB_len c
    rw [show txt (c :: l) = txtB c ++ txt l from rfl, List.length_append, List.length_cons]
    omega
theorem and7 (c : UInt8) : bits BinOp.and IntKind.u8 (c.toNat : Int) 7 = ((c.toNat % 8 : Nat) : Int) := by
  have := all256 (fun c => decide (bits BinOp.and IntKind.u8 (c.toNat : Int) 7 = ((c.toNat % 8 : Nat) : Int))) (by decide +kernel) c
  simpa using this
theorem and78 (c : UInt8) : bits BinOp.and IntKind.u8 ((c.toNat : Int) / 8) 7 = ((c.toNat / 8 % 8 : Nat) : Int) := by
  have := all256 (fun c => decide (bits BinOp.and IntKind.u8 ((c.toNat : Int) / 8) 7 = ((c.toNat / 8 % 8 : Nat) : Int))) (by decide +kernel) c
  simpa using this
theorem cells_app (a b : List UInt8) : Lib.byteCells (a ++ b) = Lib.byteCells a ++ Lib.byteCells b := by simp [Lib.byteCells]
theorem cells4 (c : UInt8) : Lib.byteCells [92, UInt8.ofNat (48 + c.toNat / 64), UInt8.ofNat (48 + c.toNat / 8 % 8), UInt8.ofNat (48 + c.toNat % 8)] = [.int .u8 92, .int .u8 (48 + (c.toNat : Int) / 64), .int .u8 (48 + (c.toNat : Int) / 8 % 8), .int .u8 (48 + (c.toNat : Int) % 8)] := by
  have h := c.toNat_lt
  have e1 : ((UInt8.ofNat (48 + c.toNat / 64)).toNat : Int) = 48 + (c.toNat : Int) / 64 := by rw [UInt8.toNat_ofNat']; omega
  have e2 : ((UInt8.ofNat (48 + c.toNat / 8 % 8)).toNat : Int) = 48 + (c.toNat : Int) / 8 % 8 := by rw [UInt8.toNat_ofNat']; omega
  have e3 : ((UInt8.ofNat (48 + c.toNat % 8)).toNat : Int) = 48 + (c.toNat : Int) % 8 := by rw [UInt8.toNat_ofNat']; omega
  simp only [Lib.byteCells, List.map_cons, List.map_nil]
  rw [e1, e2, e3]
  rfl
set_option maxRecDepth 8000 in
set_option maxHeartbeats 4000000 in
theorem text_calls (B b : Nat) (bs : List UInt8) (l : List UInt8) (w : World) (h : IsBuf B b (Lib.byteCells bs) w) (hBw : B ≤ w.heap.size) (hlim : bs.length + 4 * l.length + 2 ≤ 140737488355328) :
    Calls Tryd.prog 32 #[.pointer (some ⟨b, 0, none⟩), .string ⟨l.toArray⟩] w fun e w' => e = .returned (.tuple #[]) ∧ IsBuf B b (Lib.byteCells (bs ++ 40 :: (txt l ++ [41]))) w' ∧ Below B w w' ∧ Kept 5 b w w' := by
  have hb := Lib.IsBuffer.lt h
  have H := Lib.hid h
  clear h
  have cv := fun W : World => run_bytes_of_string (P := Tryd.prog) W 9 24 5 ⟨l.toArray⟩ Tryd.underlying9 Tryd.underlying24 Tryd.underlying5
  go_enter Tryd.func32, Tryd.ntmps32
  go_wp2_with (go_at_call 33; refine (writeByte_calls B b _ 40 _ H.out hBw (Lib.byteCells_one _) (by rw [Lib.byteCells_length]; omega)).mono ?_; rintro e w1 ⟨rfl, hI1, hb1, hk1⟩; have HI1 := Lib.hid hI1; clear hI1)
  have z1 := hb1.size
  have hlt1 := Lib.IsBuffer.lt HI1.out
  have hS : Scr w1.heap.size l (w1.drew.alloc (.cells (bytesRow ⟨l.toArray⟩ (grownCap w1 l.length 0 5)) 5 ((bytesRow ⟨l.toArray⟩ (grownCap w1 l.length 0 5)).size, (bytesRow ⟨l.toArray⟩ (grownCap w1 l.length 0 5)).size + 1))) := ⟨_, heap_alloc_new w1.drew _⟩
  have hU : Up w1 (w1.drew.alloc (.cells (bytesRow ⟨l.toArray⟩ (grownCap w1 l.length 0 5)) 5 ((bytesRow ⟨l.toArray⟩ (grownCap w1 l.length 0 5)).size, (bytesRow ⟨l.toArray⟩ (grownCap w1 l.length 0 5)).size + 1))) := (Up.drew (Up.refl _)).alloc _
  go_loopw [11] (fun s11 wr => ∃ k : Nat, k ≤ l.length ∧ s11 = .int .i64 k ∧ Hid (IsBuf B b (Lib.byteCells (bs ++ 40 :: txt (l.take k))) wr ∧ Below B w wr ∧ Kept 5 b w wr ∧ Scr w1.heap.size l wr)) (fun s11 _ => l.length - (intOf s11).toNat)
  case atStart => exact ⟨0, Nat.zero_le _, rfl, Lib.hid ⟨by have h9 := Lib.IsBuffer.old HI1.out hU; have e9 : Lib.byteCells (bs ++ 40 :: txt (l.take 0)) = Lib.byteCells bs ++ [Value.int .u8 40] := by simp [Lib.byteCells, txt]
                                                            rw [e9]; exact h9, hb1.trans (hU.mono (Nat.le_trans hBw z1)), hk1.up hU, hS⟩⟩
  case round =>
    obtain ⟨k, hk, rfl, HR⟩ := hrel
    by_cases hlt : k < l.length
    · have y1 : decide (k < l.length) = true := decide_eq_true hlt
      have lc := HR.out.2.2.2.cell k hlt
      have lg := HR.out.2.2.2.lt
      have zw := HR.out.2.1.size
      generalize hc : l.getD k 0 = c at lc
      have hlc := c.toNat_lt
      have hst : txt (l.take (k + 1)) = txt (l.take k) ++ txtB c := by
        rw [List.take_add_one, List.getElem?_eq_getElem hlt]
        simp only [Option.toList_some, txt_snoc]
        simp [← hc, hlt]
      have hel := txt_len (l.take k)
      rw [List.length_take] at hel
      have HST := Lib.hid hst
      clear hst hc
      by_cases hq : c = 40 ∨ c = 41 ∨ c = 92
      · have HB := Lib.hid (show txtB c = [92, c] by unfold txtB; rw [if_pos hq])
        have hp : ((c.toNat : Int) == 40) = true ∨ (((c.toNat : Int) == 40) = false ∧ ((c.toNat : Int) == 41) = true) ∨ (((c.toNat : Int) == 40) = false ∧ ((c.toNat : Int) == 41) = false ∧ ((c.toNat : Int) == 92) = true) := by
          rcases hq with rfl | rfl | rfl
          · exact Or.inl rfl
          · exact Or.inr (Or.inl ⟨rfl, rfl⟩)
          · exact Or.inr (Or.inr ⟨rfl, rfl, rfl⟩)
        clear hq
        rcases hp with p1 | ⟨p1, p2⟩ | ⟨p1, p2, p3⟩
        all_goals
          go_wp2_with (first | (go_at_call 35; ((with_reducible refine (write_calls B b (Lib.byteCells (bs ++ 40 :: txt (l.take k))) [.int .u8 92, .int .u8 (c.toNat : Int)] ⟨wr.heap.size, 0, none⟩ 2 2 _ (Lib.IsBuffer.old HR.out.1 (by (repeat' (first | (with_reducible exact Up.refl _) | (with_reducible assumption) | (with_reducible refine Up.alloc ?_ _) | (with_reducible refine Up.drew ?_) | (with_reducible refine Up.drewN ?_ _) | (with_reducible refine Up.setCell ?_ ?_ _) | (with_reducible refine Up.call ?_ (by with_reducible assumption)) | go_size)))) (by simp; omega) (Lib.byteCells_one _) rfl (by decide) (by simp; omega) (news_of (cs := #[.int .u8 92, .int .u8 (c.toNat : Int)]) (by (repeat' (first | (with_reducible assumption) | (with_reducible refine Row.at _ _ ?_; (simp; done)) | (with_reducible refine Row.alloc ?_ _) | (with_reducible refine Row.drew ?_) | (with_reducible refine Row.drewN ?_ _) | (with_reducible refine Row.other ?_ (by first | (simp; done) | (simp; omega) | omega) _) | (with_reducible refine Row.up ?_ (by with_reducible assumption)) | (with_reducible refine Row.chg ?_ (by with_reducible assumption) (by first | (simp; done) | (simp; omega))))))) (by simp [Value.oneCell']) (by rw [Lib.byteCells_length, List.length_append, List.length_cons]; omega)).mono ?_); rintro E w2 ⟨rfl, hI2, hb2, hk2⟩; have HI2 := Lib.hid hI2; clear hI2)))
          go_roundw
          all_goals try (case measure => simp [intOf]; omega)
          all_goals
            refine ⟨k + 1, by omega, by go_num, Lib.hid ⟨?_, HR.out.2.1.trans (Below.trans ((show Up wr _ by (repeat' (first | (with_reducible exact Up.refl _) | (with_reducible assumption) | (with_reducible refine Up.alloc ?_ _) | (with_reducible refine Up.drew ?_) | (with_reducible refine Up.drewN ?_ _) | (with_reducible refine Up.setCell ?_ ?_ _) | (with_reducible refine Up.call ?_ (by with_reducible assumption)) | go_size))).mono (Nat.le_trans hBw zw)) hb2), HR.out.2.2.1.trans ((Kept.refl _ _ _).up (show Up wr _ by (repeat' (first | (with_reducible exact Up.refl _) | (with_reducible assumption) | (with_reducible refine Up.alloc ?_ _) | (with_reducible refine Up.drew ?_) | (with_reducible refine Up.drewN ?_ _) | (with_reducible refine Up.setCell ?_ ?_ _) | (with_reducible refine Up.call ?_ (by with_reducible assumption)) | go_size))) |>.trans hk2), ?_⟩⟩
            · have e9 : Lib.byteCells (bs ++ 40 :: txt (l.take (k + 1))) = Lib.byteCells (bs ++ 40 :: txt (l.take k)) ++ [.int .u8 92, .int .u8 (c.toNat : Int)] := by
                rw [HST.out, HB.out]; simp [Lib.byteCells]
              rw [e9]; exact HI2.out
            · exact HR.out.2.2.2.kept ((Kept.refl _ _ _).up (show Up wr _ by (repeat' (first | (with_reducible exact Up.refl _) | (with_reducible assumption) | (with_reducible refine Up.alloc ?_ _) | (with_reducible refine Up.drew ?_) | (with_reducible refine Up.drewN ?_ _) | (with_reducible refine Up.setCell ?_ ?_ _) | (with_reducible refine Up.call ?_ (by with_reducible assumption)) | go_size))) |>.trans hk2) (by omega)
      · have n1 := ne_of (c := c) (k := 40) (z := 40) (fun h => hq (Or.inl h)) (by decide) rfl
        have n2 := ne_of (c := c) (k := 41) (z := 41) (fun h => hq (Or.inr (Or.inl h))) (by decide) rfl
        have n3 := ne_of (c := c) (k := 92) (z := 92) (fun h => hq (Or.inr (Or.inr h))) (by decide) rfl
        have HQ := Lib.hid hq
        clear hq
        by_cases ho : c.toNat < 32 ∨ 126 < c.toNat
        · have HB := Lib.hid (show txtB c = [92, UInt8.ofNat (48 + c.toNat / 64), UInt8.ofNat (48 + c.toNat / 8 % 8), UInt8.ofNat (48 + c.toNat % 8)] by unfold txtB; rw [if_neg HQ.out, if_pos ho])
          have hp : decide ((c.toNat : Int) < 32) = true ∨ (decide ((c.toNat : Int) < 32) = false ∧ decide (126 < (c.toNat : Int)) = true) := by
            by_cases h1 : c.toNat < 32
            · left; simp; omega
            · right; refine ⟨by simp; omega, by simp; omega⟩
          clear ho
          have a7 := (and7 c).trans (show ((c.toNat % 8 : Nat) : Int) = (c.toNat : Int) % 8 by omega)
          have a78 := (and78 c).trans (show ((c.toNat / 8 % 8 : Nat) : Int) = (c.toNat : Int) / 8 % 8 by omega)
          rcases hp with p1 | ⟨p1, p2⟩
          all_goals
            go_wp2_with (first | (go_at_call 35; ((with_reducible refine (write_calls B b (Lib.byteCells (bs ++ 40 :: txt (l.take k))) [.int .u8 92, .int .u8 (48 + (c.toNat : Int) / 64), .int .u8 (48 + (c.toNat : Int) / 8 % 8), .int .u8 (48 + (c.toNat : Int) % 8)] ⟨wr.heap.size, 0, none⟩ 4 4 _ (Lib.IsBuffer.old HR.out.1 (by (repeat' (first | (with_reducible exact Up.refl _) | (with_reducible assumption) | (with_reducible refine Up.alloc ?_ _) | (with_reducible refine Up.drew ?_) | (with_reducible refine Up.drewN ?_ _) | (with_reducible refine Up.setCell ?_ ?_ _) | (with_reducible refine Up.call ?_ (by with_reducible assumption)) | go_size)))) (by simp; omega) (Lib.byteCells_one _) rfl (by decide) (by simp; omega) (news_of (cs := #[.int .u8 92, .int .u8 (48 + (c.toNat : Int) / 64), .int .u8 (48 + (c.toNat : Int) / 8 % 8), .int .u8 (48 + (c.toNat : Int) % 8)]) (by (repeat' (first | (with_reducible assumption) | (with_reducible refine Row.at _ _ ?_; (simp; done)) | (with_reducible refine Row.alloc ?_ _) | (with_reducible refine Row.drew ?_) | (with_reducible refine Row.drewN ?_ _) | (with_reducible refine Row.other ?_ (by first | (simp; done) | (simp; omega) | omega) _) | (with_reducible refine Row.up ?_ (by with_reducible assumption)) | (with_reducible refine Row.chg ?_ (by with_reducible assumption) (by first | (simp; done) | (simp; omega))))))) (by simp [Value.oneCell']) (by rw [Lib.byteCells_length, List.length_append, List.length_cons]; omega)).mono ?_); rintro E w2 ⟨rfl, hI2, hb2, hk2⟩; have HI2 := Lib.hid hI2; clear hI2)))
            go_roundw
            all_goals try (case measure => simp [intOf]; omega)
            all_goals
              refine ⟨k + 1, by omega, by go_num, Lib.hid ⟨?_, HR.out.2.1.trans (Below.trans ((show Up wr _ by (repeat' (first | (with_reducible exact Up.refl _) | (with_reducible assumption) | (with_reducible refine Up.alloc ?_ _) | (with_reducible refine Up.drew ?_) | (with_reducible refine Up.drewN ?_ _) | (with_reducible refine Up.setCell ?_ ?_ _) | (with_reducible refine Up.call ?_ (by with_reducible assumption)) | go_size))).mono (Nat.le_trans hBw zw)) hb2), HR.out.2.2.1.trans ((Kept.refl _ _ _).up (show Up wr _ by (repeat' (first | (with_reducible exact Up.refl _) | (with_reducible assumption) | (with_reducible refine Up.alloc ?_ _) | (with_reducible refine Up.drew ?_) | (with_reducible refine Up.drewN ?_ _) | (with_reducible refine Up.setCell ?_ ?_ _) | (with_reducible refine Up.call ?_ (by with_reducible assumption)) | go_size))) |>.trans hk2), ?_⟩⟩
              · have e9 : Lib.byteCells (bs ++ 40 :: txt (l.take (k + 1))) = Lib.byteCells (bs ++ 40 :: txt (l.take k)) ++ [.int .u8 92, .int .u8 (48 + (c.toNat : Int) / 64), .int .u8 (48 + (c.toNat : Int) / 8 % 8), .int .u8 (48 + (c.toNat : Int) % 8)] := by
                  rw [HST.out, HB.out, show bs ++ 40 :: (txt (l.take k) ++ [92, UInt8.ofNat (48 + c.toNat / 64), UInt8.ofNat (48 + c.toNat / 8 % 8), UInt8.ofNat (48 + c.toNat % 8)]) = (bs ++ 40 :: txt (l.take k)) ++ [92, UInt8.ofNat (48 + c.toNat / 64), UInt8.ofNat (48 + c.toNat / 8 % 8), UInt8.ofNat (48 + c.toNat % 8)] by simp, cells_app, cells4]
                rw [e9]; exact HI2.out
              · exact HR.out.2.2.2.kept ((Kept.refl _ _ _).up (show Up wr _ by (repeat' (first | (with_reducible exact Up.refl _) | (with_reducible assumption) | (with_reducible refine Up.alloc ?_ _) | (with_reducible refine Up.drew ?_) | (with_reducible refine Up.drewN ?_ _) | (with_reducible refine Up.setCell ?_ ?_ _) | (with_reducible refine Up.call ?_ (by with_reducible assumption)) | go_size))) |>.trans hk2) (by omega)
        · have HB := Lib.hid (show txtB c = [c] by unfold txtB; rw [if_neg HQ.out, if_neg ho])
          have p1 : decide ((c.toNat : Int) < 32) = false := decide_eq_false (by omega)
          have p2 : decide (126 < (c.toNat : Int)) = false := decide_eq_false (by omega)
          clear ho
          go_wp2_with (go_at_call 33; ((with_reducible refine (writeByte_calls B b (Lib.byteCells (bs ++ 40 :: txt (l.take k))) (c.toNat : Int) _ HR.out.1 (by omega) (Lib.byteCells_one _) (by rw [Lib.byteCells_length, List.length_append, List.length_cons]; omega)).mono ?_); rintro E w2 ⟨rfl, hI2, hb2, hk2⟩; have HI2 := Lib.hid hI2; clear hI2))
          go_roundw
          case measure => simp [intOf]; omega
          case rel =>
            refine ⟨k + 1, by omega, by go_num, Lib.hid ⟨?_, HR.out.2.1.trans hb2, HR.out.2.2.1.trans hk2, HR.out.2.2.2.kept hk2 (by omega)⟩⟩
            have e9 : Lib.byteCells (bs ++ 40 :: txt (l.take (k + 1))) = Lib.byteCells (bs ++ 40 :: txt (l.take k)) ++ [.int .u8 (c.toNat : Int)] := by
              rw [HST.out, HB.out]; simp [Lib.byteCells]
            rw [e9]; exact HI2.out
    · have y1 : decide (k < l.length) = false := decide_eq_false hlt
      obtain rfl : k = l.length := by omega
      have hel := txt_len l
      go_wp2_with (go_at_call 33; ((with_reducible refine (writeByte_calls B b (Lib.byteCells (bs ++ 40 :: txt (l.take l.length))) 41 _ HR.out.1 (by have := HR.out.2.1.size; omega) (Lib.byteCells_one _) (by rw [Lib.byteCells_length, List.length_append, List.length_cons, List.take_length]; omega)).mono ?_); rintro E w2 ⟨rfl, hI2, hb2, hk2⟩; have HI2 := Lib.hid hI2; clear hI2))
      go_returns
      refine ⟨rfl, ?_, HR.out.2.1.trans hb2, HR.out.2.2.1.trans hk2⟩
      have e9 : Lib.byteCells (bs ++ 40 :: (txt l ++ [41])) = Lib.byteCells (bs ++ 40 :: txt (l.take l.length)) ++ [.int .u8 41] := by
        rw [List.take_length]; simp [Lib.byteCells]
      rw [e9]; exact HI2.out

end Go.Proofs.YtaafelkdhahaoaaDoor.Pob
