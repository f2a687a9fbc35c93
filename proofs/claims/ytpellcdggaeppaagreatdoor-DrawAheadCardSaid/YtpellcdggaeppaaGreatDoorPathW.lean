/- What the lower functions of package path return and leave behind. -/
import Derived.Test.YtpellcdggaeppaaGreatDoorFix
import Derived.Test.YtpellcdggaeppaaGreatDoorChg
import Derived.Test.YtpellcdggaeppaaGreatDoorApp
import Derived.Test.YtpellcdggaeppaaGreatDoorPathM
import Derived.Laws.OwnMore
import Derived.Deep.RegionWith
namespace Go.Proofs.YtpellcdggaeppaaGreatDoor.Path
open Go.ChangeShapes Go.WideShapes Go.ChangeAt Go.RowKit
open Go.Proofs.YtpellcdggaeppaaGreatDoor.FixM (fits)
open Go.Proofs.YtpellcdggaeppaaGreatDoor.PathM
set_option linter.unusedVariables false
set_option linter.unusedSimpArgs false

theorem fits1_calls (x y : Int) (w : World) :
    Calls Tryz.prog 145 #[.agg #[.int .i64 x, .int .i64 y]] w fun e w' => e = .returned (.bool (!fitsP (x, y))) ∧ Up w w' := by
  by_cases h1 : fits x = true
  · have H := Lib.hid (show (!fitsP (x, y)) = !fits y by simp [fitsP, h1])
    go_enter Tryz.func145, Tryz.ntmps145
    go_wp2_with (go_at_call 111; ((with_reducible refine (Fix.fits_calls _ _).mono ?_); rintro e w' ⟨rfl, rfl⟩))
    go_ret
    exact ⟨by rw [H.out]; rfl, by (repeat' (first | (with_reducible exact Up.refl _) | (with_reducible assumption) | (with_reducible refine Up.alloc ?_ _) | (with_reducible refine Up.drew ?_) | (with_reducible refine Up.drewN ?_ _) | (with_reducible refine Up.setCell ?_ ?_ _) | (with_reducible refine Up.call ?_ (by with_reducible assumption)) | go_size))⟩
  · have h1 : fits x = false := by simpa using h1
    have H := Lib.hid (show (!fitsP (x, y)) = true by simp [fitsP, h1])
    go_enter Tryz.func145, Tryz.ntmps145
    go_wp2_with (go_at_call 111; ((with_reducible refine (Fix.fits_calls _ _).mono ?_); rintro e w' ⟨rfl, rfl⟩))
    go_ret
    exact ⟨by rw [H.out]; rfl, by (repeat' (first | (with_reducible exact Up.refl _) | (with_reducible assumption) | (with_reducible refine Up.alloc ?_ _) | (with_reducible refine Up.drew ?_) | (with_reducible refine Up.drewN ?_ _) | (with_reducible refine Up.setCell ?_ ?_ _) | (with_reducible refine Up.call ?_ (by with_reducible assumption)) | go_size))⟩

theorem sound1_calls (x y : Int) (w : World) :
    Calls Tryz.prog 116 #[.agg #[.int .i64 x, .int .i64 y]] w fun e w' => e = .returned (.bool (!((x, y) == ((0, 0) : Pt)))) ∧ Up w w' := by
  by_cases h1 : x = 0
  · subst h1
    by_cases h2 : y = 0
    · subst h2
      go_enter Tryz.func116, Tryz.ntmps116
      go_wp2
      go_ret
      exact ⟨rfl, by (repeat' (first | (with_reducible exact Up.refl _) | (with_reducible assumption) | (with_reducible refine Up.alloc ?_ _) | (with_reducible refine Up.drew ?_) | (with_reducible refine Up.drewN ?_ _) | (with_reducible refine Up.setCell ?_ ?_ _) | (with_reducible refine Up.call ?_ (by with_reducible assumption)) | go_size))⟩
    · have H := Lib.hid (show (!((0, y) == ((0, 0) : Pt))) = true by simpa using h2)
      go_enter Tryz.func116, Tryz.ntmps116
      go_wp2
      go_ret
      exact ⟨by rw [H.out]; rfl, by (repeat' (first | (with_reducible exact Up.refl _) | (with_reducible assumption) | (with_reducible refine Up.alloc ?_ _) | (with_reducible refine Up.drew ?_) | (with_reducible refine Up.drewN ?_ _) | (with_reducible refine Up.setCell ?_ ?_ _) | (with_reducible refine Up.call ?_ (by with_reducible assumption)) | go_size))⟩
  · have H := Lib.hid (show (!((x, y) == ((0, 0) : Pt))) = true by simp [h1])
    go_enter Tryz.func116, Tryz.ntmps116
    go_wp2
    go_ret
    exact ⟨by rw [H.out]; rfl, by (repeat' (first | (with_reducible exact Up.refl _) | (with_reducible assumption) | (with_reducible refine Up.alloc ?_ _) | (with_reducible refine Up.drew ?_) | (with_reducible refine Up.drewN ?_ _) | (with_reducible refine Up.setCell ?_ ?_ _) | (with_reducible refine Up.call ?_ (by with_reducible assumption)) | go_size))⟩

/-- points that lie in a row -/
def Pts (w : World) (b o : Nat) (l : List Pt) : Prop := ∀ (i : Nat) (p : Pt), l[i]? = some p → w.cell? ⟨b, o + i * 2, none⟩ = some (.int .i64 p.1) ∧ w.cell? ⟨b, o + i * 2 + 1, none⟩ = some (.int .i64 p.2)
theorem Pts.up {w w1 : World} {b o : Nat} {l : List Pt} (h : Pts w b o l) (hb : b < w.heap.size) (hu : Up w w1) : Pts w1 b o l := fun i p hp => by
  obtain ⟨h0, h1⟩ := h i p hp
  exact ⟨(hu.cells.1 b _ hb).trans h0, (hu.cells.1 b _ hb).trans h1⟩

theorem index_fits (l : List Pt) (b o c : Nat) (w : World) (hl : l.length ≤ 1000000000) (h : Pts w b o l) (hb : b < w.heap.size) :
    Calls Tryz.prog 146 #[.slice (some ⟨b, o, none⟩) l.length c, .func (.func 145) #[] #[]] w fun e w' => e = .returned (.int .i64 (idxF (fun p => !fitsP p) l)) ∧ Up w w' := by
  have HP := Lib.hid h
  clear h
  go_enter Tryz.func146, Tryz.ntmps146
  go_wp2
  go_loopw [8] (fun i wr => ∃ k : Nat, k ≤ l.length ∧ i = .int .i64 k ∧ (l.take k).any (fun p => !fitsP p) = false ∧ Up w wr) (fun i _ => l.length - (intOf i).toNat)
  case atStart => exact ⟨0, Nat.zero_le _, rfl, rfl, Up.refl _⟩
  case round =>
    obtain ⟨k, hk, rfl, hno, hup⟩ := hrel
    have HN := Lib.hid hno
    clear hno
    by_cases hlt : k < l.length
    · obtain ⟨x, y, hxy⟩ : ∃ x y, l[k] = (x, y) := ⟨_, _, rfl⟩
      have hg : l[k]? = some (x, y) := by rw [List.getElem?_eq_getElem hlt, hxy]
      obtain ⟨hc0, hc1⟩ := HP.out k (x, y) hg
      have hq0 := (hup.cells.1 b (o + k * 2) hb).trans hc0
      have hq1 := (hup.cells.1 b (o + k * 2 + 1) hb).trans hc1
      have hz := hup.size
      clear hc0 hc1
      have HG := Lib.hid hg
      have HL := Lib.hid (And.intro hlt hxy)
      clear hg hxy
      obtain ⟨t, ht⟩ : ∃ t, (fun p => !fitsP p) (x, y) = t := ⟨_, rfl⟩
      have HT := Lib.hid ht
      dsimp only at ht
      have HT2 := Lib.hid ht
      clear ht
      cases t
      · go_wp2_with (go_at_call 145; ((with_reducible refine (fits1_calls x y _).mono ?_); rintro E w1 ⟨rfl, hu1⟩; rw [HT2.out]))
        go_roundw
        case rel => exact ⟨k + 1, by omega, by go_num, by rw [List.take_succ_eq_append_getElem HL.out.1, List.any_append, HN.out, HL.out.2]; simpa using HT.out, by (repeat' (first | (with_reducible exact Up.refl _) | (with_reducible assumption) | (with_reducible refine Up.alloc ?_ _) | (with_reducible refine Up.drew ?_) | (with_reducible refine Up.drewN ?_ _) | (with_reducible refine Up.setCell ?_ ?_ _) | (with_reducible refine Up.call ?_ (by with_reducible assumption)) | go_size))⟩
        case measure => have := HL.out.1; simp [intOf]; omega
      · have HE : Hid (idxF (fun p => !fitsP p) l = k) := Lib.hid (by
          have ha : l.any (fun p => !fitsP p) = true := List.any_eq_true.2 ⟨(x, y), List.mem_of_getElem? HG.out, HT.out⟩
          unfold idxF
          rw [if_pos ha]
          congr 1
          rw [List.findIdx_eq HL.out.1]
          refine ⟨by rw [HL.out.2]; exact HT.out, fun j hj => ?_⟩
          have h1 := HN.out
          rw [List.any_eq_false] at h1
          have h2 := h1 (l[j]'(by have := HL.out.1; omega)) (List.mem_take_iff_getElem.2 ⟨j, by have := HL.out.1; omega, rfl⟩)
          simpa using h2)
        go_wp2_with (go_at_call 145; ((with_reducible refine (fits1_calls x y _).mono ?_); rintro E w1 ⟨rfl, hu1⟩; rw [HT2.out]))
        go_ret
        exact ⟨by rw [HE.out]; rfl, by (repeat' (first | (with_reducible exact Up.refl _) | (with_reducible assumption) | (with_reducible refine Up.alloc ?_ _) | (with_reducible refine Up.drew ?_) | (with_reducible refine Up.drewN ?_ _) | (with_reducible refine Up.setCell ?_ ?_ _) | (with_reducible refine Up.call ?_ (by with_reducible assumption)) | go_size))⟩
    · have HE : Hid (idxF (fun p => !fitsP p) l = -1) := Lib.hid (by
        have := HN.out
        rw [List.take_of_length_le (by omega)] at this
        unfold idxF
        rw [this]
        rfl)
      go_wp2
      go_ret
      exact ⟨by rw [HE.out]; rfl, by (repeat' (first | (with_reducible exact Up.refl _) | (with_reducible assumption) | (with_reducible refine Up.alloc ?_ _) | (with_reducible refine Up.drew ?_) | (with_reducible refine Up.drewN ?_ _) | (with_reducible refine Up.setCell ?_ ?_ _) | (with_reducible refine Up.call ?_ (by with_reducible assumption)) | go_size))⟩

theorem contains_fits (l : List Pt) (b o c : Nat) (w : World) (hl : l.length ≤ 1000000000) (h : Pts w b o l) (hb : b < w.heap.size) :
    Calls Tryz.prog 115 #[.slice (some ⟨b, o, none⟩) l.length c, .func (.func 145) #[] #[]] w fun e w' => e = .returned (.bool (l.any (fun p => !fitsP p))) ∧ Up w w' := by
  have HI := Lib.hid (idxF_neg (fun p => !fitsP p) l)
  have HP := Lib.hid h
  clear h
  go_enter Tryz.func115, Tryz.ntmps115
  go_wp2_with (go_at_call 146; ((with_reducible refine (index_fits l b o c _ hl HP.out hb).mono ?_); rintro E w1 ⟨rfl, hu1⟩))
  go_ret
  exact ⟨by rw [← HI.out]; rfl, by (repeat' (first | (with_reducible exact Up.refl _) | (with_reducible assumption) | (with_reducible refine Up.alloc ?_ _) | (with_reducible refine Up.drew ?_) | (with_reducible refine Up.drewN ?_ _) | (with_reducible refine Up.setCell ?_ ?_ _) | (with_reducible refine Up.call ?_ (by with_reducible assumption)) | go_size))⟩

theorem index_sound (l : List Pt) (b o c : Nat) (w : World) (hl : l.length ≤ 1000000000) (h : Pts w b o l) (hb : b < w.heap.size) :
    Calls Tryz.prog 146 #[.slice (some ⟨b, o, none⟩) l.length c, .func (.func 116) #[] #[]] w fun e w' => e = .returned (.int .i64 (idxF (fun p => !(p == ((0, 0) : Pt))) l)) ∧ Up w w' := by
  have HP := Lib.hid h
  clear h
  go_enter Tryz.func146, Tryz.ntmps146
  go_wp2
  go_loopw [8] (fun i wr => ∃ k : Nat, k ≤ l.length ∧ i = .int .i64 k ∧ (l.take k).any (fun p => !(p == ((0, 0) : Pt))) = false ∧ Up w wr) (fun i _ => l.length - (intOf i).toNat)
  case atStart => exact ⟨0, Nat.zero_le _, rfl, rfl, Up.refl _⟩
  case round =>
    obtain ⟨k, hk, rfl, hno, hup⟩ := hrel
    have HN := Lib.hid hno
    clear hno
    by_cases hlt : k < l.length
    · obtain ⟨x, y, hxy⟩ : ∃ x y, l[k] = (x, y) := ⟨_, _, rfl⟩
      have hg : l[k]? = some (x, y) := by rw [List.getElem?_eq_getElem hlt, hxy]
      obtain ⟨hc0, hc1⟩ := HP.out k (x, y) hg
      have hq0 := (hup.cells.1 b (o + k * 2) hb).trans hc0
      have hq1 := (hup.cells.1 b (o + k * 2 + 1) hb).trans hc1
      have hz := hup.size
      clear hc0 hc1
      have HG := Lib.hid hg
      have HL := Lib.hid (And.intro hlt hxy)
      clear hg hxy
      obtain ⟨t, ht⟩ : ∃ t, (fun p => !(p == ((0, 0) : Pt))) (x, y) = t := ⟨_, rfl⟩
      have HT := Lib.hid ht
      dsimp only at ht
      have HT2 := Lib.hid ht
      clear ht
      cases t
      · go_wp2_with (go_at_call 116; ((with_reducible refine (sound1_calls x y _).mono ?_); rintro E w1 ⟨rfl, hu1⟩; rw [HT2.out]))
        go_roundw
        case rel => exact ⟨k + 1, by omega, by go_num, by rw [List.take_succ_eq_append_getElem HL.out.1, List.any_append, HN.out, HL.out.2]; simpa using HT.out, by (repeat' (first | (with_reducible exact Up.refl _) | (with_reducible assumption) | (with_reducible refine Up.alloc ?_ _) | (with_reducible refine Up.drew ?_) | (with_reducible refine Up.drewN ?_ _) | (with_reducible refine Up.setCell ?_ ?_ _) | (with_reducible refine Up.call ?_ (by with_reducible assumption)) | go_size))⟩
        case measure => have := HL.out.1; simp [intOf]; omega
      · have HE : Hid (idxF (fun p => !(p == ((0, 0) : Pt))) l = k) := Lib.hid (by
          have ha : l.any (fun p => !(p == ((0, 0) : Pt))) = true := List.any_eq_true.2 ⟨(x, y), List.mem_of_getElem? HG.out, HT.out⟩
          unfold idxF
          rw [if_pos ha]
          congr 1
          rw [List.findIdx_eq HL.out.1]
          refine ⟨by rw [HL.out.2]; exact HT.out, fun j hj => ?_⟩
          have h1 := HN.out
          rw [List.any_eq_false] at h1
          have h2 := h1 (l[j]'(by have := HL.out.1; omega)) (List.mem_take_iff_getElem.2 ⟨j, by have := HL.out.1; omega, rfl⟩)
          simpa using h2)
        go_wp2_with (go_at_call 116; ((with_reducible refine (sound1_calls x y _).mono ?_); rintro E w1 ⟨rfl, hu1⟩; rw [HT2.out]))
        go_ret
        exact ⟨by rw [HE.out]; rfl, by (repeat' (first | (with_reducible exact Up.refl _) | (with_reducible assumption) | (with_reducible refine Up.alloc ?_ _) | (with_reducible refine Up.drew ?_) | (with_reducible refine Up.drewN ?_ _) | (with_reducible refine Up.setCell ?_ ?_ _) | (with_reducible refine Up.call ?_ (by with_reducible assumption)) | go_size))⟩
    · have HE : Hid (idxF (fun p => !(p == ((0, 0) : Pt))) l = -1) := Lib.hid (by
        have := HN.out
        rw [List.take_of_length_le (by omega)] at this
        unfold idxF
        rw [this]
        rfl)
      go_wp2
      go_ret
      exact ⟨by rw [HE.out]; rfl, by (repeat' (first | (with_reducible exact Up.refl _) | (with_reducible assumption) | (with_reducible refine Up.alloc ?_ _) | (with_reducible refine Up.drew ?_) | (with_reducible refine Up.drewN ?_ _) | (with_reducible refine Up.setCell ?_ ?_ _) | (with_reducible refine Up.call ?_ (by with_reducible assumption)) | go_size))⟩

theorem contains_sound (l : List Pt) (b o c : Nat) (w : World) (hl : l.length ≤ 1000000000) (h : Pts w b o l) (hb : b < w.heap.size) :
    Calls Tryz.prog 115 #[.slice (some ⟨b, o, none⟩) l.length c, .func (.func 116) #[] #[]] w fun e w' => e = .returned (.bool (l.any (fun p => !(p == ((0, 0) : Pt))))) ∧ Up w w' := by
  have HI := Lib.hid (idxF_neg (fun p => !(p == ((0, 0) : Pt))) l)
  have HP := Lib.hid h
  clear h
  go_enter Tryz.func115, Tryz.ntmps115
  go_wp2_with (go_at_call 146; ((with_reducible refine (index_sound l b o c _ hl HP.out hb).mono ?_); rintro E w1 ⟨rfl, hu1⟩))
  go_ret
  exact ⟨by rw [← HI.out]; rfl, by (repeat' (first | (with_reducible exact Up.refl _) | (with_reducible assumption) | (with_reducible refine Up.alloc ?_ _) | (with_reducible refine Up.drew ?_) | (with_reducible refine Up.drewN ?_ _) | (with_reducible refine Up.setCell ?_ ?_ _) | (with_reducible refine Up.call ?_ (by with_reducible assumption)) | go_size))⟩

theorem fits_calls (l : List Pt) (b o c : Nat) (w : World) (hl : l.length ≤ 1000000000) (h : Pts w b o l) (hb : b < w.heap.size) :
    Calls Tryz.prog 114 #[.slice (some ⟨b, o, none⟩) l.length c] w fun e w' => e = .returned (.bool (l.all fitsP)) ∧ Up w w' := by
  have HI := Lib.hid (show (!l.any fun p => !fitsP p) = l.all fitsP by rw [List.not_any_eq_all_not]; simp)
  have HP := Lib.hid h
  clear h
  go_enter Tryz.func114, Tryz.ntmps114
  go_wp2_with (go_at_call 115; ((with_reducible refine (contains_fits l b o c _ hl HP.out hb).mono ?_); rintro E w1 ⟨rfl, hu1⟩))
  go_ret
  exact ⟨by rw [← HI.out]; rfl, by (repeat' (first | (with_reducible exact Up.refl _) | (with_reducible assumption) | (with_reducible refine Up.alloc ?_ _) | (with_reducible refine Up.drew ?_) | (with_reducible refine Up.drewN ?_ _) | (with_reducible refine Up.setCell ?_ ?_ _) | (with_reducible refine Up.call ?_ (by with_reducible assumption)) | go_size))⟩

end Go.Proofs.YtpellcdggaeppaaGreatDoor.Path
