/- Package gstate: dashes of states that are none; a copy of a slice of integers. No condition. -/
import Derived.Test.YtoflafbhfoncmaaDoorGsN
import Derived.Test.YtoflafbhfoncmaaDoorApp
import Derived.Test.YtoflafbhfoncmaaDoorArgs
namespace Go.Proofs.YtoflafbhfoncmaaDoor.Gs
open Go.ChangeShapes Go.WideShapes Go.RowKit
open Go.Proofs.YtoflafbhfoncmaaDoor.FixM (fits)
open Go.Proofs.YtoflafbhfoncmaaDoor.MatM (M6)
set_option linter.unusedVariables false
set_option linter.unusedSimpArgs false

theorem check_noneV (v : Value) (w : World) :
    Calls Tryd.prog 45 #[.pointer none, v] w fun e w' => e = .returned (.int .i64 21) ∧ Up w w' := by
  go_enter Tryd.func45, Tryd.ntmps45
  go_wp2
  go_ret
  exact ⟨rfl, by (repeat' (first | (with_reducible exact Up.refl _) | (with_reducible assumption) | (with_reducible refine Up.alloc ?_ _) | (with_reducible refine Up.drew ?_) | (with_reducible refine Up.drewN ?_ _) | (with_reducible refine Up.setCell ?_ ?_ _) | (with_reducible refine Up.call ?_ (by with_reducible assumption)) | go_size))⟩

theorem setColor_noneV (v : Value) (w : World) : Calls Tryd.prog 28 #[.pointer none, v] w fun e w' => e = .returned (.int .i64 21) ∧ Up w w' := by
  go_enter Tryd.func28, Tryd.ntmps28
  go_wp2_with (go_at_call 45; ((with_reducible refine (check_noneV _ _).mono ?_); rintro E w1 ⟨rfl, hu1⟩))
  go_ret
  exact ⟨rfl, by (repeat' (first | (with_reducible exact Up.refl _) | (with_reducible assumption) | (with_reducible refine Up.alloc ?_ _) | (with_reducible refine Up.drew ?_) | (with_reducible refine Up.drewN ?_ _) | (with_reducible refine Up.setCell ?_ ?_ _) | (with_reducible refine Up.call ?_ (by with_reducible assumption)) | go_size))⟩

theorem one_made (w : World) (x : Int) : (w.alloc (.cells #[.int .i64 x] 3)).ownsRow 0 3 1 (.slice (some ⟨w.heap.size, 0, none⟩) 1 1) 1 [.int .i64 x] :=
  ⟨by simp, .inr ⟨w.heap.size, 1, #[.int .i64 x], rfl, Nat.zero_le _, heap_alloc_new w _, Nat.le_refl _, by decide, rfl, by simp⟩⟩

set_option maxRecDepth 8000 in
theorem setDash_none (a : Option Addr) (len cap : Nat) (zs : List Int) (ph : Int) (w : World) (h : IsRow .i64 w a len cap zs) (h100 : len ≤ 100) :
    Calls Tryd.prog 29 #[.pointer none, .slice a len cap, .int .i64 ph] w fun e w' => e = .returned (.int .i64 21) ∧ Up w w' := by
  obtain ⟨i0, hi, hz0, hz1, hz2⟩ := info_parts Mat.info3
  have HI := Lib.hid h
  clear h
  go_enter Tryd.func29, Tryd.ntmps29
  go_wp2_with (first
    | (at_builtin; refine wpList_append_any rfl _ _ 27 rfl 0 3 i0 (.int .i64 0) 1 8 Tryd.underlying27 hi hz0 hz1 hz2 rfl (by decide) (.slice (some ⟨w.heap.size, 0, none⟩) 1 1) 1 [.int .i64 ph] rfl (one_made w ph) a len cap _ rfl HI.out.newsLen HI.out.none (HI.out.news (Up.alloc (Up.refl w) _)) (ints_oneCell _ _) (by unfold maxLen; omega) (by omega) (Nat.zero_le _) ?_; intro v' w1 hown hgr hnil; have HU := Lib.hid (show Up w w1 from grown_up (Up.alloc (Up.refl w) _) hgr (fun k0 hk0 => by have h4 : w.heap.size = k0 := (by injection hk0); omega)); have hu1 := HU.out; clear hown hgr hnil)
    | (go_at_call 45; ((with_reducible refine (check_noneV _ _).mono ?_); rintro E w2 ⟨rfl, hu2⟩)))
  go_ret
  exact ⟨rfl, by (repeat' (first | (with_reducible exact Up.refl _) | (with_reducible assumption) | (with_reducible refine Up.alloc ?_ _) | (with_reducible refine Up.drew ?_) | (with_reducible refine Up.drewN ?_ _) | (with_reducible refine Up.setCell ?_ ?_ _) | (with_reducible refine Up.call ?_ (by with_reducible assumption)) | go_size))⟩

set_option maxRecDepth 8000 in
theorem setDash_noneV (v : Value) (n : Nat) (xs : List Value) (ph : Int) (w : World) (h : w.ownsRow 0 3 1 v n xs) (h100 : n ≤ 100) (h1 : ∀ u ∈ xs, u.oneCell' = true) :
    Calls Tryd.prog 29 #[.pointer none, v, .int .i64 ph] w fun e w' => e = .returned (.int .i64 21) ∧ Up w w' := by
  by_cases hv : v = .slice none 0 0
  · have hn : IsRow .i64 w none 0 0 [] := by constructor <;> simp
    subst hv
    exact setDash_none none 0 0 [] ph w hn (by omega)
  obtain ⟨g, c, rfl, -, hc, hcm, hg, hl, hat⟩ := owns_some h hv
  obtain ⟨i0, hi, hz0, hz1, hz2⟩ := info_parts Mat.info3
  have HAT := Lib.hid hat
  clear h hat hv
  go_enter Tryd.func29, Tryd.ntmps29
  go_wp2_with (first
    | (at_builtin; refine wpList_append_any rfl _ _ 27 rfl 0 3 i0 (.int .i64 0) 1 8 Tryd.underlying27 hi hz0 hz1 hz2 rfl (by decide) (.slice (some ⟨w.heap.size, 0, none⟩) 1 1) 1 [.int .i64 ph] rfl (one_made w ph) (some ⟨g, 0, none⟩) n c xs rfl (by omega) (fun hh => by cases hh) (fun ad had j u hu => by injection had with had; subst had; rw [add_plain, Nat.zero_add]; exact ((Up.alloc (Up.refl w) _).cells.1 g _ hg).trans (HAT.out j u hu)) h1 (by unfold maxLen; omega) (by omega) (Nat.zero_le _) ?_; intro v' w1 hown hgr hnil; have HU := Lib.hid (show Up w w1 from grown_up (Up.alloc (Up.refl w) _) hgr (fun k0 hk0 => by have h4 : w.heap.size = k0 := (by injection hk0); omega)); have hu1 := HU.out; clear hown hgr hnil)
    | (go_at_call 45; ((with_reducible refine (check_noneV _ _).mono ?_); rintro E w2 ⟨rfl, hu2⟩)))
  go_ret
  exact ⟨rfl, by (repeat' (first | (with_reducible exact Up.refl _) | (with_reducible assumption) | (with_reducible refine Up.alloc ?_ _) | (with_reducible refine Up.drew ?_) | (with_reducible refine Up.drewN ?_ _) | (with_reducible refine Up.setCell ?_ ?_ _) | (with_reducible refine Up.call ?_ (by with_reducible assumption)) | go_size))⟩

end Go.Proofs.YtoflafbhfoncmaaDoor.Gs
