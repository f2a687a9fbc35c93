/- Package pobj, of a name: named, bare, sound, name, write, Print. No condition. -/
import Derived.Test.YtpellcdggaeppaaGreatDoorBuf
import Derived.Test.YtpellcdggaeppaaGreatDoorPobM
import Derived.Test.YtpellcdggaeppaaGreatDoorRows
import Derived.Test.YtpellcdggaeppaaGreatDoorChg
import Derived.Lib.IndexAny
import Derived.Deep.QuietTactic
import Derived.BigQuiet
import Derived.StillTailTactics
import Derived.Lib.Hide
import Derived.Lib.BufferOld
import Derived.Deep.RegionLaw
import Derived.Deep.RegionHeld3
namespace Go.Proofs.YtpellcdggaeppaaGreatDoor.Pob
open Go.RowKit Go.Shelf Go.ChangeShapes
set_option linter.unusedVariables false
set_option linter.unusedSimpArgs false

theorem idx_dl (c : UInt8) : decide (0 ≤ Lib.indexByte dl c) = dl.contains c := by rw [Lib.contains_iff_indexByte]
theorem toNat_u8 (c : UInt8) : ((c.toNat : Int)).toNat.toUInt8 = c := by simp

theorem hex_index (n : Nat) (hn : n < 16) (i : Int) (hi : i = n) (W : World) :
    (Instr.index 9 (.string ⟨#[48, 49, 50, 51, 52, 53, 54, 55, 56, 57, 97, 98, 99, 100, 101, 102]⟩) (.int .u8 i)).run Tryz.prog W = .ok (.int .u8 ((hexc n).toNat : Int)) W := by
  subst hi
  rw [run_index_string W 9 _ .u8 n Tryz.underlying9]
  have : ∀ m : Fin 16, (#[48, 49, 50, 51, 52, 53, 54, 55, 56, 57, 97, 98, 99, 100, 101, 102] : Array UInt8)[m.val]'(m.2) = hexc m := by decide +kernel
  have h2 := this ⟨n, hn⟩
  rw [dif_pos ⟨by omega, show ((n : Nat) : Int) < ((16 : Nat) : Int) by omega⟩]
  congr 3
  simp only [Int.toNat_natCast]
  exact congrArg UInt8.toNat h2
theorem and15 (c : UInt8) : bits BinOp.and IntKind.u8 (c.toNat : Int) 15 = ((c.toNat % 16 : Nat) : Int) := by
  have := all256 (fun c => decide (bits BinOp.and IntKind.u8 (c.toNat : Int) 15 = ((c.toNat % 16 : Nat) : Int))) (by decide +kernel) c
  simpa using this
theorem news_of {w : World} {g : Nat} {cs : Array Value} (h : Row w g cs) : ∀ j u, cs.toList[j]? = some u → w.cell? ((⟨g, 0, none⟩ : Addr).add j) = some u := fun j u hu => by
  rw [add_plain, Nat.zero_add]
  exact h.cell j (by simpa using hu)
/-- the marked row of a string's bytes -/
def Scr (g : Nat) (l : List UInt8) (w : World) : Prop := ∃ c, w.heap[g]? = some (.cells (bytesRow ⟨l.toArray⟩ c) 5 ((bytesRow ⟨l.toArray⟩ c).size, (bytesRow ⟨l.toArray⟩ c).size + 1))
theorem Scr.cell {g : Nat} {l : List UInt8} {w : World} (h : Scr g l w) (j : Nat) (hj : j < l.length) : w.cell? ⟨g, j, none⟩ = some (.int .u8 ((l.getD j 0).toNat : Int)) := by
  obtain ⟨c, h⟩ := h
  rw [Lib.cell_of_heap h, bytesRow_at _ _ _ (by simpa using hj)]
  simp [hj]
theorem Scr.kept {g b : Nat} {l : List UInt8} {w w1 : World} (h : Scr g l w) (k : Kept 5 b w w1) (hb : g ≠ b) : Scr g l w1 := by
  obtain ⟨c, h⟩ := h
  exact ⟨c, k.cell h hb (Or.inl (by simp))⟩
theorem Scr.lt {g : Nat} {l : List UInt8} {w : World} (h : Scr g l w) : g < w.heap.size := by
  obtain ⟨c, h⟩ := h
  exact (Array.getElem?_eq_some_iff.1 h).1

set_option maxRecDepth 8000 in
theorem name_calls (B b : Nat) (bs : List UInt8) (l : List UInt8) (w : World) (h : IsBuf B b (Lib.byteCells bs) w) (hBw : B ≤ w.heap.size) (hlim : bs.length + 3 * l.length + 1 ≤ 140737488355328) :
    Calls Tryz.prog 151 #[.pointer (some ⟨b, 0, none⟩), .string ⟨l.toArray⟩] w fun e w' => e = .returned (.tuple #[]) ∧ IsBuf B b (Lib.byteCells (bs ++ 47 :: enc l)) w' ∧ Below B w w' ∧ Kept 5 b w w' := by
  have hb := Lib.IsBuffer.lt h
  have H := Lib.hid h
  clear h
  have cv := fun W : World => run_bytes_of_string (P := Tryz.prog) W 9 27 5 ⟨l.toArray⟩ Tryz.underlying9 Tryz.underlying27 Tryz.underlying5
  go_enter Tryz.func151, Tryz.ntmps151
  go_wp2_with (go_at_call 118; refine (writeByte_calls B b _ 47 _ H.out hBw (Lib.byteCells_one _) (by rw [Lib.byteCells_length]; omega)).mono ?_; rintro e w1 ⟨rfl, hI1, hb1, hk1⟩; have HI1 := Lib.hid hI1; clear hI1)
  have z1 := hb1.size
  have hlt1 := Lib.IsBuffer.lt HI1.out
  have hS : Scr w1.heap.size l (w1.drew.alloc (.cells (bytesRow ⟨l.toArray⟩ (grownCap w1 l.length 0 5)) 5 ((bytesRow ⟨l.toArray⟩ (grownCap w1 l.length 0 5)).size, (bytesRow ⟨l.toArray⟩ (grownCap w1 l.length 0 5)).size + 1))) := ⟨_, heap_alloc_new w1.drew _⟩
  have hU : Up w1 (w1.drew.alloc (.cells (bytesRow ⟨l.toArray⟩ (grownCap w1 l.length 0 5)) 5 ((bytesRow ⟨l.toArray⟩ (grownCap w1 l.length 0 5)).size, (bytesRow ⟨l.toArray⟩ (grownCap w1 l.length 0 5)).size + 1))) := (Up.drew (Up.refl _)).alloc _
  go_loopw [11] (fun s11 wr => ∃ k : Nat, k ≤ l.length ∧ s11 = .int .i64 k ∧ Hid (IsBuf B b (Lib.byteCells (bs ++ 47 :: enc (l.take k))) wr ∧ Below B w wr ∧ Kept 5 b w wr ∧ Scr w1.heap.size l wr)) (fun s11 _ => l.length - (intOf s11).toNat)
  case atStart => exact ⟨0, Nat.zero_le _, rfl, Lib.hid ⟨by have h9 := Lib.IsBuffer.old HI1.out hU; have e9 : Lib.byteCells (bs ++ 47 :: enc (l.take 0)) = Lib.byteCells bs ++ [Value.int .u8 47] := by simp [Lib.byteCells, enc]
                                                            rw [e9]; exact h9, hb1.trans (hU.mono (Nat.le_trans hBw z1)), hk1.up hU, hS⟩⟩
  case round =>
    obtain ⟨k, hk, rfl, HR⟩ := hrel
    by_cases hlt : k < l.length
    · have y1 : decide (k < l.length) = true := decide_eq_true hlt
      have lc := HR.out.2.2.2.cell k hlt
      have lg := HR.out.2.2.2.lt
      have zw := HR.out.2.1.size
      generalize hc : l.getD k 0 = c at lc
      have hlc := c.toNat_lt
      have hst : enc (l.take (k + 1)) = enc (l.take k) ++ encB c := by
        rw [List.take_add_one, List.getElem?_eq_getElem hlt]
        simp only [Option.toList_some, enc_snoc]
        simp [← hc, hlt]
      have hel := enc_len (l.take k)
      rw [List.length_take] at hel
      have HST := Lib.hid hst
      clear hst hc
      have hx : ∃ x : Int, Lib.indexByte [40, 41, 60, 62, 91, 93, 123, 125, 47, 37, 35] ((c.toNat : Int)).toNat.toUInt8 = x ∧ decide (0 ≤ x) = dl.contains c := ⟨_, rfl, by rw [toNat_u8]; exact idx_dl c⟩
      obtain ⟨x, hx, hxd⟩ := hx
      have HX := Lib.hid hx
      clear hx
      by_cases hq : quoted c = true
      · have HQ := Lib.hid hq
        have hp : decide ((c.toNat : Int) < 33) = true ∨ (decide ((c.toNat : Int) < 33) = false ∧ decide (126 < (c.toNat : Int)) = true) ∨ (decide ((c.toNat : Int) < 33) = false ∧ decide (126 < (c.toNat : Int)) = false ∧ decide (0 ≤ x) = true) := by
          rw [hxd]
          simp only [quoted, Bool.or_eq_true, decide_eq_true_eq] at hq
          by_cases h1 : c.toNat < 33
          · left; simp; omega
          · by_cases h2 : 126 < c.toNat
            · right; left; simp; omega
            · right; right
              refine ⟨by simp; omega, by simp; omega, ?_⟩
              rcases hq with (hq | hq) | hq
              · omega
              · omega
              · exact hq
        clear hq hxd
        rcases hp with p1 | ⟨p1, p2⟩ | ⟨p1, p2, p3⟩
        all_goals
          have i1 := hex_index (c.toNat / 16) (by omega) ((c.toNat : Int) / 16) (by omega)
          have i2 := hex_index (c.toNat % 16) (by omega) _ (and15 c)
          go_wp2_with (go_at_call 168; refine (Tryz.strings_IndexByte _ _ _).mono ?_; rw [HX.out]; rintro e w' ⟨rfl, hw⟩; obtain rfl := hw.symm; clear hw)
          go_region_law (first | (go_simp; go_at_call 84; ((with_reducible refine (write_calls B b (Lib.byteCells (bs ++ 47 :: enc (l.take k))) [.int .u8 35, .int .u8 ((hexc (c.toNat / 16)).toNat : Int), .int .u8 ((hexc (c.toNat % 16)).toNat : Int)] ⟨wr.heap.size, 0, none⟩ 3 3 _ (Lib.IsBuffer.old HR.out.1 (by (repeat' (first | (with_reducible exact Up.refl _) | (with_reducible assumption) | (with_reducible refine Up.alloc ?_ _) | (with_reducible refine Up.drew ?_) | (with_reducible refine Up.drewN ?_ _) | (with_reducible refine Up.setCell ?_ ?_ _) | (with_reducible refine Up.call ?_ (by with_reducible assumption)) | go_size)))) (by simp; omega) (Lib.byteCells_one _) rfl (by decide) (by simp; omega) (news_of (cs := #[.int .u8 35, .int .u8 ((hexc (c.toNat / 16)).toNat : Int), .int .u8 ((hexc (c.toNat % 16)).toNat : Int)]) (by (repeat' (first | (with_reducible assumption) | (with_reducible refine Row.at _ _ ?_; (simp; done)) | (with_reducible refine Row.alloc ?_ _) | (with_reducible refine Row.drew ?_) | (with_reducible refine Row.drewN ?_ _) | (with_reducible refine Row.other ?_ (by first | (simp; done) | (simp; omega) | omega) _) | (with_reducible refine Row.up ?_ (by with_reducible assumption)) | (with_reducible refine Row.chg ?_ (by with_reducible assumption) (by first | (simp; done) | (simp; omega))))))) (by simp [Value.oneCell']) (by rw [Lib.byteCells_length, List.length_append, List.length_cons]; omega)).mono ?_); rintro E w2 ⟨rfl, hI2, hb2, hk2⟩; have HI2 := Lib.hid hI2; clear hI2)))
          all_goals
            go_wp2
            go_roundw
          all_goals try (case measure => simp [intOf]; omega)
          all_goals
            refine ⟨k + 1, by omega, by go_num, Lib.hid ⟨?_, HR.out.2.1.trans (Below.trans ((show Up wr _ by (repeat' (first | (with_reducible exact Up.refl _) | (with_reducible assumption) | (with_reducible refine Up.alloc ?_ _) | (with_reducible refine Up.drew ?_) | (with_reducible refine Up.drewN ?_ _) | (with_reducible refine Up.setCell ?_ ?_ _) | (with_reducible refine Up.call ?_ (by with_reducible assumption)) | go_size))).mono (Nat.le_trans hBw zw)) hb2), HR.out.2.2.1.trans ((Kept.refl _ _ _).up (show Up wr _ by (repeat' (first | (with_reducible exact Up.refl _) | (with_reducible assumption) | (with_reducible refine Up.alloc ?_ _) | (with_reducible refine Up.drew ?_) | (with_reducible refine Up.drewN ?_ _) | (with_reducible refine Up.setCell ?_ ?_ _) | (with_reducible refine Up.call ?_ (by with_reducible assumption)) | go_size))) |>.trans hk2), ?_⟩⟩
            · have e9 : Lib.byteCells (bs ++ 47 :: enc (l.take (k + 1))) = Lib.byteCells (bs ++ 47 :: enc (l.take k)) ++ [.int .u8 35, .int .u8 ((hexc (c.toNat / 16)).toNat : Int), .int .u8 ((hexc (c.toNat % 16)).toNat : Int)] := by
                rw [HST.out, encB, if_pos HQ.out]; simp [Lib.byteCells]
              rw [e9]; exact HI2.out
            · exact HR.out.2.2.2.kept ((Kept.refl _ _ _).up (show Up wr _ by (repeat' (first | (with_reducible exact Up.refl _) | (with_reducible assumption) | (with_reducible refine Up.alloc ?_ _) | (with_reducible refine Up.drew ?_) | (with_reducible refine Up.drewN ?_ _) | (with_reducible refine Up.setCell ?_ ?_ _) | (with_reducible refine Up.call ?_ (by with_reducible assumption)) | go_size))) |>.trans hk2) (by omega)
      · have HQ := Lib.hid hq
        simp only [quoted, Bool.or_eq_true, decide_eq_true_eq, not_or] at hq
        have p1 : decide ((c.toNat : Int) < 33) = false := decide_eq_false (by omega)
        have p2 : decide (126 < (c.toNat : Int)) = false := decide_eq_false (by omega)
        have p3 : decide (0 ≤ x) = false := by rw [hxd]; simpa using hq.2
        clear hq hxd
        go_wp2_with (first
          | (go_at_call 168; refine (Tryz.strings_IndexByte _ _ _).mono ?_; rw [HX.out]; rintro e w' ⟨rfl, hw⟩; obtain rfl := hw.symm; clear hw)
          | (go_at_call 118; ((with_reducible refine (writeByte_calls B b (Lib.byteCells (bs ++ 47 :: enc (l.take k))) (c.toNat : Int) _ HR.out.1 (by omega) (Lib.byteCells_one _) (by rw [Lib.byteCells_length, List.length_append, List.length_cons]; omega)).mono ?_); rintro E w2 ⟨rfl, hI2, hb2, hk2⟩; have HI2 := Lib.hid hI2; clear hI2)))
        go_roundw
        case measure => simp [intOf]; omega
        case rel =>
          refine ⟨k + 1, by omega, by go_num, Lib.hid ⟨?_, HR.out.2.1.trans hb2, HR.out.2.2.1.trans hk2, HR.out.2.2.2.kept hk2 (by omega)⟩⟩
          have e9 : Lib.byteCells (bs ++ 47 :: enc (l.take (k + 1))) = Lib.byteCells (bs ++ 47 :: enc (l.take k)) ++ [.int .u8 (c.toNat : Int)] := by
            rw [HST.out, encB, if_neg HQ.out]; simp [Lib.byteCells]
          rw [e9]; exact HI2.out
    · have y1 : decide (k < l.length) = false := decide_eq_false hlt
      obtain rfl : k = l.length := by omega
      go_wp2
      go_returns
      exact ⟨rfl, by simpa using HR.out.1, HR.out.2.1, HR.out.2.2.1⟩

end Go.Proofs.YtpellcdggaeppaaGreatDoor.Pob
