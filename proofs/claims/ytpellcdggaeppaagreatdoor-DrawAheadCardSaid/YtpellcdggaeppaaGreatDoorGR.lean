/- The reference's sound of an object without parts. Its condition: lengths. The reference's sound of an object with parts. Its condition: an object that is not too large. The reference's sound of an object with parts. Its condition: an object that is not too large. Both Sounds of any object. Its condition: an object that is not too large. -/
import Derived.Test.YtpellcdggaeppaaGreatDoorGQ
section
namespace Go.Proofs.YtpellcdggaeppaaGreatDoor.Pob
open Go.ChangeShapes Go.WideShapes Go.RowKit Go.Shelf
set_option linter.unusedVariables false
set_option linter.unusedSimpArgs false


theorem beqZ (n : Int) : ((n : Int) == 0) = decide (n = 0) := by by_cases h : n = 0 <;> simp [h]
theorem beqN (n : Nat) : (((n : Nat) : Int) == 0) = decide (n = 0) := by
  by_cases h : n = 0
  · subst h; rfl
  · rw [decide_eq_false h]
    simp [h]
theorem rfits_pob (n : Int) (r : Bool) (hr : (decide (-2147483648 ≤ n) && decide (n ≤ 2147483647)) = r) (w : World) : Calls Tryz.prog 54 #[.int .i64 n] w fun e w' => e = .returned (.bool r) ∧ w = w' := by
  by_cases h1 : -2147483648 ≤ n
  · by_cases h2 : n ≤ 2147483647
    · obtain rfl : r = true := by rw [← hr]; simp [h1, h2]
      clear hr
      go_enter Tryz.func54, Tryz.ntmps54
      go_wp2
      go_ret
      exact ⟨rfl, rfl⟩
    · obtain rfl : r = false := by rw [← hr]; simp [h2]
      clear hr
      have d2 : decide (n ≤ 2147483647) = false := decide_eq_false h2
      clear h2
      go_enter Tryz.func54, Tryz.ntmps54
      go_wp2
      go_ret
      exact ⟨rfl, rfl⟩
  · obtain rfl : r = false := by rw [← hr]; simp [h1]
    clear hr
    have d2 : decide (-2147483648 ≤ n) = false := decide_eq_false h1
    clear h1
    go_enter Tryz.func54, Tryz.ntmps54
    go_wp2
    go_ret
    exact ⟨rfl, rfl⟩
end Go.Proofs.YtpellcdggaeppaaGreatDoor.Pob
end

section
namespace Go.Proofs.YtpellcdggaeppaaGreatDoor.Pob
open Go.ChangeShapes Go.WideShapes Go.RowKit Go.Shelf
set_option linter.unusedVariables false
set_option linter.unusedSimpArgs false


/-- a key is one that may be -/
def keyOk (nine : Bool) (ks : List (List UInt8)) (i : Nat) : Bool := namedB (ks.getD i []) && !(nine && (ks.getD i [] == lenKey)) && !(ks.take i).contains (ks.getD i [])
def keysR (nine : Bool) (ks : List (List UInt8)) : Bool := (List.range ks.length).all (keyOk nine ks)
theorem keys_seven (ks : List (List UInt8)) : keysR false ks = distR ks := by
  unfold keysR distR
  congr 1
  funext i
  simp [keyOk, distOk]
theorem keys_nine (ks : List (List UInt8)) : keysR true ks = (distR ks && !ks.contains lenKey) := by
  rw [Bool.eq_iff_iff]
  simp only [keysR, distR, List.all_eq_true, List.mem_range, keyOk, distOk, Bool.and_eq_true, Bool.not_eq_true', Bool.true_and]
  constructor
  · intro h
    refine ⟨fun i hi => ⟨(h i hi).1.1, (h i hi).2⟩, ?_⟩
    rw [Bool.eq_false_iff, Ne, List.contains_iff_mem]
    intro hm
    obtain ⟨i, hi, e⟩ := List.mem_iff_getElem.1 hm
    have := (h i hi).1.2
    rw [List.getD_eq_getElem?_getD, List.getElem?_eq_getElem hi, Option.getD_some, e] at this
    simp at this
  · rintro ⟨h, hn⟩ i hi
    refine ⟨⟨(h i hi).1, ?_⟩, (h i hi).2⟩
    rw [Bool.eq_false_iff, Ne, List.contains_iff_mem] at hn
    rw [beq_eq_false_iff_ne]
    intro e
    apply hn
    rw [← e, List.getD_eq_getElem?_getD, List.getElem?_eq_getElem hi, Option.getD_some]
    exact List.getElem_mem hi
theorem not_in_step {ks : List (List UInt8)} {j : Nat} {s c : List UInt8} (hk : ks[j]? = some c) (h : (ks.take j).contains s = false) (hc : c ≠ s) : (ks.take (j + 1)).contains s = false := by
  rw [Bool.eq_false_iff, Ne, List.contains_iff_mem] at h ⊢
  rw [List.take_add_one, hk]
  simp only [Option.toList_some, List.mem_append, List.mem_singleton]
  rintro (h1 | h1)
  · exact h h1
  · exact hc h1.symm
theorem in_take {ks : List (List UInt8)} {j i : Nat} {s : List UInt8} (hk : ks[j]? = some s) (hj : j < i) : (ks.take i).contains s = true := by
  rw [List.contains_iff_mem]
  have : (ks.take i)[j]? = some s := by rw [List.getElem?_take, if_pos hj]; exact hk
  exact List.mem_of_getElem? this
end Go.Proofs.YtpellcdggaeppaaGreatDoor.Pob
end

section
namespace Go.Proofs.YtpellcdggaeppaaGreatDoor.Pob
open Go.ChangeShapes Go.WideShapes Go.RowKit Go.Shelf
set_option linter.unusedVariables false
set_option linter.unusedSimpArgs false

end Go.Proofs.YtpellcdggaeppaaGreatDoor.Pob
end

section
namespace Go.Proofs.YtpellcdggaeppaaGreatDoor.Pob
open Go.ChangeShapes Go.WideShapes Go.RowKit Go.Shelf
set_option linter.unusedVariables false
set_option linter.unusedSimpArgs false


/-- both Sounds -/
theorem pSound_calls (j : Nat) (o : PO) (w : World) (h : POk w o) (hj : lightR j o = true) : Calls Tryz.prog 121 #[.agg o.cells.toArray] w fun e w' => e = .returned (.bool (sndR 32 true o)) ∧ Up w w' := by
  obtain ⟨v, hv⟩ : ∃ v, sndR 32 true o = v := ⟨_, rfl⟩
  have HP := Lib.hid (psnd_calls 32 (by decide) j o · · hj)
  rw [hv]
  obtain ⟨k, n, t, ka, kl, kc, ks, la, ll, lc, l, da, dl, dc, d⟩ := o
  have HS : Hid (∀ W, Up w W → Calls Tryz.prog 148 #[.agg #[.int .i64 k, .int .i64 n, .string ⟨t.toArray⟩, .slice ka kl kc, .slice la ll lc, .slice da dl dc], .int .i64 32] W fun e w' => e = .returned (.bool v) ∧ Up W w') := Lib.hid (fun W hu => by rw [← hv]; exact HP.out W (h.up hu))
  show Calls _ _ #[.agg #[.int .i64 k, .int .i64 n, .string ⟨t.toArray⟩, .slice ka kl kc, .slice la ll lc, .slice da dl dc]] _ _
  clear h hj hv HP
  go_enter Tryz.func121, Tryz.ntmps121
  go_wp2_with (go_at_call 148; ((with_reducible refine (HS.out _ (by (repeat' (first | (with_reducible first | exact Up.refl _ | assumption | refine Up.alloc ?_ _ | refine Up.drew ?_ | refine Up.drewN ?_ _ | refine Up.setCell ?_ ?_ _ | refine Up.call ?_ (by assumption)) | go_size)))).mono ?_); rintro e w1 ⟨rfl, hu1⟩))
  go_ret
  exact ⟨rfl, by (repeat' (first | (with_reducible first | exact Up.refl _ | assumption | refine Up.alloc ?_ _ | refine Up.drew ?_ | refine Up.drewN ?_ _ | refine Up.setCell ?_ ?_ _ | refine Up.call ?_ (by assumption)) | go_size))⟩
end Go.Proofs.YtpellcdggaeppaaGreatDoor.Pob
end
