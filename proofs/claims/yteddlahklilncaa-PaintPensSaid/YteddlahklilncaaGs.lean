/- Package gstate: Start, New, check, Path, Now of a state in which nothing is saved and nothing clips. No condition. -/
import Derived.Test.YteddlahklilncaaPathW7
import Derived.Test.YteddlahklilncaaMat2
import Derived.Test.YteddlahklilncaaRows
import Derived.Deep.MidRow
import Derived.Lib.Hide
namespace Go.Proofs.Yteddlahklilncaa.Gs
open Go.ChangeShapes Go.WideShapes Go.RowKit
open Go.Proofs.Yteddlahklilncaa.FixM (fits)
open Go.Proofs.Yteddlahklilncaa.MatM (M6)
open Go.Proofs.Yteddlahklilncaa.PathM
set_option linter.unusedVariables false
set_option linter.unusedSimpArgs false

/-- integers that lie in a row -/
def IntsAt (w : World) (b o : Nat) (l : List Int) : Prop := ∀ (i : Nat) (p : Int), l[i]? = some p → w.cell? ⟨b, o + i, none⟩ = some (.int .i64 p)
theorem IntsAt.up {w w1 : World} {b o : Nat} {l : List Int} (h : IntsAt w b o l) (hb : b < w.heap.size) (hu : Up w w1) : IntsAt w1 b o l := fun i p hp => (hu.cells.1 b _ hb).trans (h i p hp)
def idxI (p : Int → Bool) (l : List Int) : Int := if l.any p then (l.findIdx p : Int) else -1
theorem idxI_neg (p : Int → Bool) (l : List Int) : decide (0 ≤ idxI p l) = l.any p := by
  unfold idxI
  cases h : l.any p
  · rfl
  · rw [if_pos rfl]; exact decide_eq_true (by omega)

theorem check1_calls (n : Int) (w : World) :
    Calls Try.prog 36 #[.int .i64 n] w fun e w' => e = .returned (.bool (!fits n)) ∧ w = w' := by
  go_enter Try.func36, Try.ntmps36
  go_wp2_with (go_at_call 37; ((with_reducible refine (Fix.fits_calls _ _).mono ?_); rintro e w' ⟨rfl, rfl⟩))
  go_ret
  exact ⟨rfl, rfl⟩

theorem index_check (l : List Int) (b o c : Nat) (w : World) (hl : l.length ≤ 1000000000) (h : IntsAt w b o l) (hb : b < w.heap.size) :
    Calls Try.prog 40 #[.slice (some ⟨b, o, none⟩) l.length c, .func (.func 36) #[] #[]] w fun e w' => e = .returned (.int .i64 (idxI (fun n => !fits n) l)) ∧ Up w w' := by
  have HP := Lib.hid h
  clear h
  go_enter Try.func40, Try.ntmps40
  go_wp2
  go_loopw [8] (fun i wr => ∃ k : Nat, k ≤ l.length ∧ i = .int .i64 k ∧ (l.take k).any (fun n => !fits n) = false ∧ Up w wr) (fun i _ => l.length - (intOf i).toNat)
  case atStart => exact ⟨0, Nat.zero_le _, rfl, rfl, Up.refl _⟩
  case round =>
    obtain ⟨k, hk, rfl, hno, hup⟩ := hrel
    have HN := Lib.hid hno
    clear hno
    by_cases hlt : k < l.length
    · obtain ⟨x, hxy⟩ : ∃ x, l[k] = x := ⟨_, rfl⟩
      have hg : l[k]? = some x := by rw [List.getElem?_eq_getElem hlt, hxy]
      have hc0 := HP.out k x hg
      have hq0 := (hup.cells.1 b (o + k) hb).trans hc0
      have hz := hup.size
      clear hc0
      have HG := Lib.hid hg
      have HL := Lib.hid (And.intro hlt hxy)
      clear hg hxy
      obtain ⟨t, ht⟩ : ∃ t, (!fits x) = t := ⟨_, rfl⟩
      have HT := Lib.hid ht
      clear ht
      cases t
      · go_wp2_with (go_at_call 36; ((with_reducible refine (check1_calls x _).mono ?_); rintro E w1 ⟨rfl, rfl⟩; rw [HT.out]))
        go_roundw
        case rel => exact ⟨k + 1, by omega, by go_num, by rw [List.take_succ_eq_append_getElem HL.out.1, List.any_append, HN.out, HL.out.2]; simpa using HT.out, by (repeat' (first | (with_reducible exact Up.refl _) | (with_reducible assumption) | (with_reducible refine Up.alloc ?_ _) | (with_reducible refine Up.drew ?_) | (with_reducible refine Up.drewN ?_ _) | (with_reducible refine Up.setCell ?_ ?_ _) | (with_reducible refine Up.call ?_ (by with_reducible assumption)) | go_size))⟩
        case measure => have := HL.out.1; simp [intOf]; omega
      · have HE : Hid (idxI (fun n => !fits n) l = k) := Lib.hid (by
          have ha : l.any (fun n => !fits n) = true := List.any_eq_true.2 ⟨x, List.mem_of_getElem? HG.out, HT.out⟩
          unfold idxI
          rw [if_pos ha]
          congr 1
          rw [List.findIdx_eq HL.out.1]
          refine ⟨by rw [HL.out.2]; exact HT.out, fun j hj => ?_⟩
          have h1 := HN.out
          rw [List.any_eq_false] at h1
          have h2 := h1 (l[j]'(by have := HL.out.1; omega)) (List.mem_take_iff_getElem.2 ⟨j, by have := HL.out.1; omega, rfl⟩)
          simpa using h2)
        go_wp2_with (go_at_call 36; ((with_reducible refine (check1_calls x _).mono ?_); rintro E w1 ⟨rfl, rfl⟩; rw [HT.out]))
        go_ret
        exact ⟨by rw [HE.out]; rfl, by (repeat' (first | (with_reducible exact Up.refl _) | (with_reducible assumption) | (with_reducible refine Up.alloc ?_ _) | (with_reducible refine Up.drew ?_) | (with_reducible refine Up.drewN ?_ _) | (with_reducible refine Up.setCell ?_ ?_ _) | (with_reducible refine Up.call ?_ (by with_reducible assumption)) | go_size))⟩
    · have HE : Hid (idxI (fun n => !fits n) l = -1) := Lib.hid (by
        have := HN.out
        rw [List.take_of_length_le (by omega)] at this
        unfold idxI
        rw [this]
        rfl)
      go_wp2
      go_ret
      exact ⟨by rw [HE.out]; rfl, by (repeat' (first | (with_reducible exact Up.refl _) | (with_reducible assumption) | (with_reducible refine Up.alloc ?_ _) | (with_reducible refine Up.drew ?_) | (with_reducible refine Up.drewN ?_ _) | (with_reducible refine Up.setCell ?_ ?_ _) | (with_reducible refine Up.call ?_ (by with_reducible assumption)) | go_size))⟩

theorem contains_check (l : List Int) (b o c : Nat) (w : World) (hl : l.length ≤ 1000000000) (h : IntsAt w b o l) (hb : b < w.heap.size) :
    Calls Try.prog 23 #[.slice (some ⟨b, o, none⟩) l.length c, .func (.func 36) #[] #[]] w fun e w' => e = .returned (.bool (l.any (fun n => !fits n))) ∧ Up w w' := by
  have HI := Lib.hid (idxI_neg (fun n => !fits n) l)
  have HP := Lib.hid h
  clear h
  go_enter Try.func23, Try.ntmps23
  go_wp2_with (go_at_call 40; ((with_reducible refine (index_check l b o c _ hl HP.out hb).mono ?_); rintro E w1 ⟨rfl, hu1⟩))
  go_ret
  exact ⟨by rw [← HI.out]; rfl, by (repeat' (first | (with_reducible exact Up.refl _) | (with_reducible assumption) | (with_reducible refine Up.alloc ?_ _) | (with_reducible refine Up.drew ?_) | (with_reducible refine Up.drewN ?_ _) | (with_reducible refine Up.setCell ?_ ?_ _) | (with_reducible refine Up.call ?_ (by with_reducible assumption)) | go_size))⟩

/-- the error of a call with numbers -/
def chk (l : List Int) : Int := if l.any (fun n => !fits n) then 11 else 0
theorem check_calls (g : Addr) (l : List Int) (N b o c : Nat) (hN : l.length = N) (w : World) (hl : N ≤ 1000000000) (h : IntsAt w b o l) (hb : b < w.heap.size) :
    Calls Try.prog 21 #[.pointer (some g), .slice (some ⟨b, o, none⟩) N c] w fun e w' => e = .returned (.int .i64 (chk l)) ∧ Up w w' := by
  subst hN
  have HP := Lib.hid h
  clear h
  cases hv : l.any (fun n => !fits n)
  all_goals
    have HV := Lib.hid hv
    have HC := Lib.hid (show chk l = _ by unfold chk; rw [hv])
    clear hv
    go_enter Try.func21, Try.ntmps21
    go_wp2_with (go_at_call 23; ((with_reducible refine (contains_check l b o c _ hl HP.out hb).mono ?_); rw [HV.out]; rintro E w1 ⟨rfl, hu1⟩))
    go_ret
    exact ⟨by rw [HC.out]; rfl, by (repeat' (first | (with_reducible exact Up.refl _) | (with_reducible assumption) | (with_reducible refine Up.alloc ?_ _) | (with_reducible refine Up.drew ?_) | (with_reducible refine Up.drewN ?_ _) | (with_reducible refine Up.setCell ?_ ?_ _) | (with_reducible refine Up.call ?_ (by with_reducible assumption)) | go_size))⟩

end Go.Proofs.Yteddlahklilncaa.Gs
