/- Rows of integers, and the matrix of letters tested. No condition. -/
import Derived.Test.YtpellcdggaeppaaGreatDoorGF
import Derived.Test.YtpellcdggaeppaaGreatDoorFix
import Derived.Test.YtpellcdggaeppaaGreatDoorGM
import Derived.Test.YtpellcdggaeppaaGreatDoorChg
import Derived.Test.YtpellcdggaeppaaGreatDoorSl
namespace Go.Proofs.YtpellcdggaeppaaGreatDoor.Pt
open Go.ChangeShapes Go.WideShapes Go.ChangeAt Go.RowKit
open Go.Proofs.YtpellcdggaeppaaGreatDoor.FixM (fits)
open Go.Proofs.YtpellcdggaeppaaGreatDoor.MatM (M6)
set_option linter.unusedVariables false
set_option linter.unusedSimpArgs false

/-- integers that lie in a row -/
def IntsAt (w : World) (b o : Nat) (l : List Int) : Prop := ∀ (i : Nat) (p : Int), l[i]? = some p → w.cell? ⟨b, o + i, none⟩ = some (.int .i64 p)
theorem IntsAt.up {w w1 : World} {b o : Nat} {l : List Int} (h : IntsAt w b o l) (hb : b < w.heap.size) (hu : Up w w1) : IntsAt w1 b o l := fun i p hp => (hu.cells.1 b _ hb).trans (h i p hp)
def idxI (p : Int → Bool) (l : List Int) : Int := if l.any p then (l.findIdx p : Int) else -1
theorem idxI_neg (p : Int → Bool) (l : List Int) : decide (0 ≤ idxI p l) = l.any p := by
  unfold idxI
  cases h : l.any p
  · rfl
  · rw [if_pos rfl]; exact decide_eq_true (by omega)

abbrev lM (m : M6) : List Int := [m.a, m.b, m.c, m.d, m.x, m.y]
theorem names_some (i : Int) (h0 : 0 ≤ i) (h1 : i < 14) : ∃ wl : List UInt8, (if 0 ≤ i ∧ i < 14 then Font.namesL.getD i.toNat [] else []) = wl ∧ wl ≠ [] := by
  obtain ⟨n, rfl⟩ := Int.eq_ofNat_of_zero_le h0
  refine ⟨_, rfl, ?_⟩
  rw [if_pos ⟨h0, h1⟩, Int.toNat_natCast]
  have : ∀ m : Fin 14, Font.namesL.getD m.val [] ≠ [] := by decide
  exact this ⟨n, by omega⟩
theorem letters1_calls (n : Int) (w : World) :
    Calls Tryz.prog 110 #[.int .i64 n] w fun e w' => e = .returned (.bool (!fits n)) ∧ w = w' := by
  go_enter Tryz.func110, Tryz.ntmps110
  go_wp2_with (go_at_call 111; ((with_reducible refine (Fix.fits_calls _ _).mono ?_); rintro e w' ⟨rfl, rfl⟩))
  go_ret
  exact ⟨rfl, rfl⟩

theorem index_letters (l : List Int) (b o c : Nat) (w : World) (hl : l.length ≤ 1000000000) (h : IntsAt w b o l) (hb : b < w.heap.size) :
    Calls Tryz.prog 144 #[.slice (some ⟨b, o, none⟩) l.length c, .func (.func 110) #[] #[]] w fun e w' => e = .returned (.int .i64 (idxI (fun n => !fits n) l)) ∧ Up w w' := by
  have HP := Lib.hid h
  clear h
  go_enter Tryz.func144, Tryz.ntmps144
  go_wp2
  go_loopw [8] (fun i wr => ∃ k : Nat, k ≤ l.length ∧ i = .int .i64 k ∧ (l.take k).any (fun n => !fits n) = false ∧ Up w wr) (fun i _ => l.length - (intOf i).toNat)
  case atStart => exact ⟨0, Nat.zero_le _, rfl, rfl, Up.refl _⟩
  case round =>
    obtain ⟨k, hk, rfl, hno, hup⟩ := hrel
    have HN := Lib.hid hno
    clear hno
    by_cases hlt : k < l.length
    · obtain ⟨x, hxy⟩ : ∃ x, l[k] = x := ⟨_, rfl⟩
      have hg : l[k]? = some x := by rw [List.getElem?_eq_getElem hlt, hxy]
      have hc0 := HP.out k x hg
      have hq0 := (hup.cells.1 b (o + k) hb).trans hc0
      have hz := hup.size
      clear hc0
      have HG := Lib.hid hg
      have HL := Lib.hid (And.intro hlt hxy)
      clear hg hxy
      obtain ⟨t, ht⟩ : ∃ t, (!fits x) = t := ⟨_, rfl⟩
      have HT := Lib.hid ht
      clear ht
      cases t
      · go_wp2_with (go_at_call 110; ((with_reducible refine (letters1_calls x _).mono ?_); rintro E w1 ⟨rfl, rfl⟩; rw [HT.out]))
        go_roundw
        case rel => exact ⟨k + 1, by omega, by go_num, by rw [List.take_succ_eq_append_getElem HL.out.1, List.any_append, HN.out, HL.out.2]; simpa using HT.out, by (repeat' (first | (with_reducible first | exact Up.refl _ | assumption | refine Up.alloc ?_ _ | refine Up.drew ?_ | refine Up.drewN ?_ _ | refine Up.setCell ?_ ?_ _ | refine Up.call ?_ (by assumption)) | go_size))⟩
        case measure => have := HL.out.1; simp [intOf]; omega
      · have HE : Hid (idxI (fun n => !fits n) l = k) := Lib.hid (by
          have ha : l.any (fun n => !fits n) = true := List.any_eq_true.2 ⟨x, List.mem_of_getElem? HG.out, HT.out⟩
          unfold idxI
          rw [if_pos ha]
          congr 1
          rw [List.findIdx_eq HL.out.1]
          refine ⟨by rw [HL.out.2]; exact HT.out, fun j hj => ?_⟩
          have h1 := HN.out
          rw [List.any_eq_false] at h1
          have h2 := h1 (l[j]'(by have := HL.out.1; omega)) (List.mem_take_iff_getElem.2 ⟨j, by have := HL.out.1; omega, rfl⟩)
          simpa using h2)
        go_wp2_with (go_at_call 110; ((with_reducible refine (letters1_calls x _).mono ?_); rintro E w1 ⟨rfl, rfl⟩; rw [HT.out]))
        go_ret
        exact ⟨by rw [HE.out]; rfl, by (repeat' (first | (with_reducible first | exact Up.refl _ | assumption | refine Up.alloc ?_ _ | refine Up.drew ?_ | refine Up.drewN ?_ _ | refine Up.setCell ?_ ?_ _ | refine Up.call ?_ (by assumption)) | go_size))⟩
    · have HE : Hid (idxI (fun n => !fits n) l = -1) := Lib.hid (by
        have := HN.out
        rw [List.take_of_length_le (by omega)] at this
        unfold idxI
        rw [this]
        rfl)
      go_wp2
      go_ret
      exact ⟨by rw [HE.out]; rfl, by (repeat' (first | (with_reducible first | exact Up.refl _ | assumption | refine Up.alloc ?_ _ | refine Up.drew ?_ | refine Up.drewN ?_ _ | refine Up.setCell ?_ ?_ _ | refine Up.call ?_ (by assumption)) | go_size))⟩

theorem contains_letters (l : List Int) (b o c : Nat) (w : World) (hl : l.length ≤ 1000000000) (h : IntsAt w b o l) (hb : b < w.heap.size) :
    Calls Tryz.prog 109 #[.slice (some ⟨b, o, none⟩) l.length c, .func (.func 110) #[] #[]] w fun e w' => e = .returned (.bool (l.any (fun n => !fits n))) ∧ Up w w' := by
  have HI := Lib.hid (idxI_neg (fun n => !fits n) l)
  have HP := Lib.hid h
  clear h
  go_enter Tryz.func109, Tryz.ntmps109
  go_wp2_with (go_at_call 144; ((with_reducible refine (index_letters l b o c _ hl HP.out hb).mono ?_); rintro E w1 ⟨rfl, hu1⟩))
  go_ret
  exact ⟨by rw [← HI.out]; rfl, by (repeat' (first | (with_reducible first | exact Up.refl _ | assumption | refine Up.alloc ?_ _ | refine Up.drew ?_ | refine Up.drewN ?_ _ | refine Up.setCell ?_ ?_ _ | refine Up.call ?_ (by assumption)) | go_size))⟩


theorem ints_mid {w : World} {b : Nat} {mm : M6} {cs : Array Value} (h : Row w b cs) (e0 : cs[15]? = some (.int .i64 mm.a)) (e1 : cs[16]? = some (.int .i64 mm.b)) (e2 : cs[17]? = some (.int .i64 mm.c)) (e3 : cs[18]? = some (.int .i64 mm.d)) (e4 : cs[19]? = some (.int .i64 mm.x)) (e5 : cs[20]? = some (.int .i64 mm.y)) : IntsAt w b 15 (lM mm) := fun i p hp => by
  match i with
  | 0 => simp [lM] at hp; subst hp; exact h.cell 15 e0
  | 1 => simp [lM] at hp; subst hp; exact h.cell 16 e1
  | 2 => simp [lM] at hp; subst hp; exact h.cell 17 e2
  | 3 => simp [lM] at hp; subst hp; exact h.cell 18 e3
  | 4 => simp [lM] at hp; subst hp; exact h.cell 19 e4
  | 5 => simp [lM] at hp; subst hp; exact h.cell 20 e5
  | i + 6 => simp [lM] at hp
theorem contains_letters6 (mm : M6) (b c : Nat) (w : World) (h : IntsAt w b 15 (lM mm)) (hb : b < w.heap.size) :
    Calls Tryz.prog 109 #[.slice (some ⟨b, 15, none⟩) 6 c, .func (.func 110) #[] #[]] w fun e w' => e = .returned (.bool ((lM mm).any fun n => !fits n)) ∧ Up w w' := contains_letters (lM mm) b 15 c w (by simp [lM]) h hb
end Go.Proofs.YtpellcdggaeppaaGreatDoor.Pt
