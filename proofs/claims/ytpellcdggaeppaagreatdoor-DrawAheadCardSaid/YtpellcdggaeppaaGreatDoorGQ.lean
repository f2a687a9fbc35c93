/- Package pobj: which fields an object has; which keys are distinct. No condition. Package pobj: sound of any object. Its condition: an object that is not too large. Package pobj: sound of any object. Its condition: an object that is not too large. -/
import Derived.Test.YtpellcdggaeppaaGreatDoorPobL
import Derived.Lib.SlicesS
section
namespace Go.Proofs.YtpellcdggaeppaaGreatDoor.Pob
open Go.ChangeShapes Go.WideShapes Go.RowKit Go.Shelf
set_option linter.unusedVariables false
set_option linter.unusedSimpArgs false


/-- an object has none of these fields -/
def bareC (n : Int) (t : List UInt8) (kl ll dl : Nat) (f1 f2 f3 f4 f5 : Bool) : Bool := (f1 || decide (n = 0)) && (f2 || decide (t = [])) && (f3 || decide (kl = 0)) && (f4 || decide (ll = 0)) && (f5 || decide (dl = 0))
set_option maxRecDepth 8000 in
theorem bare_FFFFF (k n : Int) (t : List UInt8) (ka : Option Addr) (kl kc : Nat) (la : Option Addr) (ll lc : Nat) (da : Option Addr) (dl dc : Nat) (r : Bool) (hr : bareC n t kl ll dl false false false false false = r) (w : World) :
    Calls Tryz.prog 162 #[.agg #[.int .i64 k, .int .i64 n, .string ⟨t.toArray⟩, .slice ka kl kc, .slice la ll lc, .slice da dl dc], .bool false, .bool false, .bool false, .bool false, .bool false] w fun e w' => e = .returned (.bool r) ∧ Up w w' := by
  have HR := Lib.hid hr
  clear hr
  by_cases h0 : n = 0
  rotate_left
  · obtain rfl : r = false := by rw [← HR.out]; simp [bareC, h0]
    have d0 : ((n : Int) == 0) = false := by simp [h0]
    clear h0
    go_enter Tryz.func162, Tryz.ntmps162
    go_wp2
    go_ret
    exact ⟨rfl, by (repeat' (first | (with_reducible first | exact Up.refl _ | assumption | refine Up.alloc ?_ _ | refine Up.drew ?_ | refine Up.drewN ?_ _ | refine Up.setCell ?_ ?_ _ | refine Up.call ?_ (by assumption)) | go_size))⟩
  subst h0
  by_cases h1 : t = []
  rotate_left
  · obtain rfl : r = false := by rw [← HR.out]; simp [bareC, h1]
    have d1 : t.isEmpty = false := by simpa using h1
    go_enter Tryz.func162, Tryz.ntmps162
    go_wp2
    go_ret
    exact ⟨rfl, by (repeat' (first | (with_reducible first | exact Up.refl _ | assumption | refine Up.alloc ?_ _ | refine Up.drew ?_ | refine Up.drewN ?_ _ | refine Up.setCell ?_ ?_ _ | refine Up.call ?_ (by assumption)) | go_size))⟩
  subst h1
  by_cases h2 : kl = 0
  rotate_left
  · obtain rfl : r = false := by rw [← HR.out]; simp [bareC, h2]
    have d2 : ((kl : Int) == 0) = false := by simp [h2]
    clear h2
    go_enter Tryz.func162, Tryz.ntmps162
    go_wp2
    go_ret
    exact ⟨rfl, by (repeat' (first | (with_reducible first | exact Up.refl _ | assumption | refine Up.alloc ?_ _ | refine Up.drew ?_ | refine Up.drewN ?_ _ | refine Up.setCell ?_ ?_ _ | refine Up.call ?_ (by assumption)) | go_size))⟩
  subst h2
  by_cases h3 : ll = 0
  rotate_left
  · obtain rfl : r = false := by rw [← HR.out]; simp [bareC, h3]
    have d3 : ((ll : Int) == 0) = false := by simp [h3]
    clear h3
    go_enter Tryz.func162, Tryz.ntmps162
    go_wp2
    go_ret
    exact ⟨rfl, by (repeat' (first | (with_reducible first | exact Up.refl _ | assumption | refine Up.alloc ?_ _ | refine Up.drew ?_ | refine Up.drewN ?_ _ | refine Up.setCell ?_ ?_ _ | refine Up.call ?_ (by assumption)) | go_size))⟩
  subst h3
  by_cases h4 : dl = 0
  rotate_left
  · obtain rfl : r = false := by rw [← HR.out]; simp [bareC, h4]
    have d4 : ((dl : Int) == 0) = false := by simp [h4]
    clear h4
    go_enter Tryz.func162, Tryz.ntmps162
    go_wp2
    go_ret
    exact ⟨rfl, by (repeat' (first | (with_reducible first | exact Up.refl _ | assumption | refine Up.alloc ?_ _ | refine Up.drew ?_ | refine Up.drewN ?_ _ | refine Up.setCell ?_ ?_ _ | refine Up.call ?_ (by assumption)) | go_size))⟩
  subst h4
  obtain rfl : r = true := by rw [← HR.out]; simp [bareC]
  go_enter Tryz.func162, Tryz.ntmps162
  go_wp2
  go_ret
  exact ⟨rfl, by (repeat' (first | (with_reducible first | exact Up.refl _ | assumption | refine Up.alloc ?_ _ | refine Up.drew ?_ | refine Up.drewN ?_ _ | refine Up.setCell ?_ ?_ _ | refine Up.call ?_ (by assumption)) | go_size))⟩

set_option maxRecDepth 8000 in
theorem bare_TFFFF (k n : Int) (t : List UInt8) (ka : Option Addr) (kl kc : Nat) (la : Option Addr) (ll lc : Nat) (da : Option Addr) (dl dc : Nat) (r : Bool) (hr : bareC n t kl ll dl true false false false false = r) (w : World) :
    Calls Tryz.prog 162 #[.agg #[.int .i64 k, .int .i64 n, .string ⟨t.toArray⟩, .slice ka kl kc, .slice la ll lc, .slice da dl dc], .bool true, .bool false, .bool false, .bool false, .bool false] w fun e w' => e = .returned (.bool r) ∧ Up w w' := by
  have HR := Lib.hid hr
  clear hr
  by_cases h1 : t = []
  rotate_left
  · obtain rfl : r = false := by rw [← HR.out]; simp [bareC, h1]
    have d1 : t.isEmpty = false := by simpa using h1
    go_enter Tryz.func162, Tryz.ntmps162
    go_wp2
    go_ret
    exact ⟨rfl, by (repeat' (first | (with_reducible first | exact Up.refl _ | assumption | refine Up.alloc ?_ _ | refine Up.drew ?_ | refine Up.drewN ?_ _ | refine Up.setCell ?_ ?_ _ | refine Up.call ?_ (by assumption)) | go_size))⟩
  subst h1
  by_cases h2 : kl = 0
  rotate_left
  · obtain rfl : r = false := by rw [← HR.out]; simp [bareC, h2]
    have d2 : ((kl : Int) == 0) = false := by simp [h2]
    clear h2
    go_enter Tryz.func162, Tryz.ntmps162
    go_wp2
    go_ret
    exact ⟨rfl, by (repeat' (first | (with_reducible first | exact Up.refl _ | assumption | refine Up.alloc ?_ _ | refine Up.drew ?_ | refine Up.drewN ?_ _ | refine Up.setCell ?_ ?_ _ | refine Up.call ?_ (by assumption)) | go_size))⟩
  subst h2
  by_cases h3 : ll = 0
  rotate_left
  · obtain rfl : r = false := by rw [← HR.out]; simp [bareC, h3]
    have d3 : ((ll : Int) == 0) = false := by simp [h3]
    clear h3
    go_enter Tryz.func162, Tryz.ntmps162
    go_wp2
    go_ret
    exact ⟨rfl, by (repeat' (first | (with_reducible first | exact Up.refl _ | assumption | refine Up.alloc ?_ _ | refine Up.drew ?_ | refine Up.drewN ?_ _ | refine Up.setCell ?_ ?_ _ | refine Up.call ?_ (by assumption)) | go_size))⟩
  subst h3
  by_cases h4 : dl = 0
  rotate_left
  · obtain rfl : r = false := by rw [← HR.out]; simp [bareC, h4]
    have d4 : ((dl : Int) == 0) = false := by simp [h4]
    clear h4
    go_enter Tryz.func162, Tryz.ntmps162
    go_wp2
    go_ret
    exact ⟨rfl, by (repeat' (first | (with_reducible first | exact Up.refl _ | assumption | refine Up.alloc ?_ _ | refine Up.drew ?_ | refine Up.drewN ?_ _ | refine Up.setCell ?_ ?_ _ | refine Up.call ?_ (by assumption)) | go_size))⟩
  subst h4
  obtain rfl : r = true := by rw [← HR.out]; simp [bareC]
  go_enter Tryz.func162, Tryz.ntmps162
  go_wp2
  go_ret
  exact ⟨rfl, by (repeat' (first | (with_reducible first | exact Up.refl _ | assumption | refine Up.alloc ?_ _ | refine Up.drew ?_ | refine Up.drewN ?_ _ | refine Up.setCell ?_ ?_ _ | refine Up.call ?_ (by assumption)) | go_size))⟩

set_option maxRecDepth 8000 in
theorem bare_FTFFF (k n : Int) (t : List UInt8) (ka : Option Addr) (kl kc : Nat) (la : Option Addr) (ll lc : Nat) (da : Option Addr) (dl dc : Nat) (r : Bool) (hr : bareC n t kl ll dl false true false false false = r) (w : World) :
    Calls Tryz.prog 162 #[.agg #[.int .i64 k, .int .i64 n, .string ⟨t.toArray⟩, .slice ka kl kc, .slice la ll lc, .slice da dl dc], .bool false, .bool true, .bool false, .bool false, .bool false] w fun e w' => e = .returned (.bool r) ∧ Up w w' := by
  have HR := Lib.hid hr
  clear hr
  by_cases h0 : n = 0
  rotate_left
  · obtain rfl : r = false := by rw [← HR.out]; simp [bareC, h0]
    have d0 : ((n : Int) == 0) = false := by simp [h0]
    clear h0
    go_enter Tryz.func162, Tryz.ntmps162
    go_wp2
    go_ret
    exact ⟨rfl, by (repeat' (first | (with_reducible first | exact Up.refl _ | assumption | refine Up.alloc ?_ _ | refine Up.drew ?_ | refine Up.drewN ?_ _ | refine Up.setCell ?_ ?_ _ | refine Up.call ?_ (by assumption)) | go_size))⟩
  subst h0
  by_cases h2 : kl = 0
  rotate_left
  · obtain rfl : r = false := by rw [← HR.out]; simp [bareC, h2]
    have d2 : ((kl : Int) == 0) = false := by simp [h2]
    clear h2
    go_enter Tryz.func162, Tryz.ntmps162
    go_wp2
    go_ret
    exact ⟨rfl, by (repeat' (first | (with_reducible first | exact Up.refl _ | assumption | refine Up.alloc ?_ _ | refine Up.drew ?_ | refine Up.drewN ?_ _ | refine Up.setCell ?_ ?_ _ | refine Up.call ?_ (by assumption)) | go_size))⟩
  subst h2
  by_cases h3 : ll = 0
  rotate_left
  · obtain rfl : r = false := by rw [← HR.out]; simp [bareC, h3]
    have d3 : ((ll : Int) == 0) = false := by simp [h3]
    clear h3
    go_enter Tryz.func162, Tryz.ntmps162
    go_wp2
    go_ret
    exact ⟨rfl, by (repeat' (first | (with_reducible first | exact Up.refl _ | assumption | refine Up.alloc ?_ _ | refine Up.drew ?_ | refine Up.drewN ?_ _ | refine Up.setCell ?_ ?_ _ | refine Up.call ?_ (by assumption)) | go_size))⟩
  subst h3
  by_cases h4 : dl = 0
  rotate_left
  · obtain rfl : r = false := by rw [← HR.out]; simp [bareC, h4]
    have d4 : ((dl : Int) == 0) = false := by simp [h4]
    clear h4
    go_enter Tryz.func162, Tryz.ntmps162
    go_wp2
    go_ret
    exact ⟨rfl, by (repeat' (first | (with_reducible first | exact Up.refl _ | assumption | refine Up.alloc ?_ _ | refine Up.drew ?_ | refine Up.drewN ?_ _ | refine Up.setCell ?_ ?_ _ | refine Up.call ?_ (by assumption)) | go_size))⟩
  subst h4
  obtain rfl : r = true := by rw [← HR.out]; simp [bareC]
  go_enter Tryz.func162, Tryz.ntmps162
  go_wp2
  go_ret
  exact ⟨rfl, by (repeat' (first | (with_reducible first | exact Up.refl _ | assumption | refine Up.alloc ?_ _ | refine Up.drew ?_ | refine Up.drewN ?_ _ | refine Up.setCell ?_ ?_ _ | refine Up.call ?_ (by assumption)) | go_size))⟩

set_option maxRecDepth 8000 in
theorem bare_FFFTF (k n : Int) (t : List UInt8) (ka : Option Addr) (kl kc : Nat) (la : Option Addr) (ll lc : Nat) (da : Option Addr) (dl dc : Nat) (r : Bool) (hr : bareC n t kl ll dl false false false true false = r) (w : World) :
    Calls Tryz.prog 162 #[.agg #[.int .i64 k, .int .i64 n, .string ⟨t.toArray⟩, .slice ka kl kc, .slice la ll lc, .slice da dl dc], .bool false, .bool false, .bool false, .bool true, .bool false] w fun e w' => e = .returned (.bool r) ∧ Up w w' := by
  have HR := Lib.hid hr
  clear hr
  by_cases h0 : n = 0
  rotate_left
  · obtain rfl : r = false := by rw [← HR.out]; simp [bareC, h0]
    have d0 : ((n : Int) == 0) = false := by simp [h0]
    clear h0
    go_enter Tryz.func162, Tryz.ntmps162
    go_wp2
    go_ret
    exact ⟨rfl, by (repeat' (first | (with_reducible first | exact Up.refl _ | assumption | refine Up.alloc ?_ _ | refine Up.drew ?_ | refine Up.drewN ?_ _ | refine Up.setCell ?_ ?_ _ | refine Up.call ?_ (by assumption)) | go_size))⟩
  subst h0
  by_cases h1 : t = []
  rotate_left
  · obtain rfl : r = false := by rw [← HR.out]; simp [bareC, h1]
    have d1 : t.isEmpty = false := by simpa using h1
    go_enter Tryz.func162, Tryz.ntmps162
    go_wp2
    go_ret
    exact ⟨rfl, by (repeat' (first | (with_reducible first | exact Up.refl _ | assumption | refine Up.alloc ?_ _ | refine Up.drew ?_ | refine Up.drewN ?_ _ | refine Up.setCell ?_ ?_ _ | refine Up.call ?_ (by assumption)) | go_size))⟩
  subst h1
  by_cases h2 : kl = 0
  rotate_left
  · obtain rfl : r = false := by rw [← HR.out]; simp [bareC, h2]
    have d2 : ((kl : Int) == 0) = false := by simp [h2]
    clear h2
    go_enter Tryz.func162, Tryz.ntmps162
    go_wp2
    go_ret
    exact ⟨rfl, by (repeat' (first | (with_reducible first | exact Up.refl _ | assumption | refine Up.alloc ?_ _ | refine Up.drew ?_ | refine Up.drewN ?_ _ | refine Up.setCell ?_ ?_ _ | refine Up.call ?_ (by assumption)) | go_size))⟩
  subst h2
  by_cases h4 : dl = 0
  rotate_left
  · obtain rfl : r = false := by rw [← HR.out]; simp [bareC, h4]
    have d4 : ((dl : Int) == 0) = false := by simp [h4]
    clear h4
    go_enter Tryz.func162, Tryz.ntmps162
    go_wp2
    go_ret
    exact ⟨rfl, by (repeat' (first | (with_reducible first | exact Up.refl _ | assumption | refine Up.alloc ?_ _ | refine Up.drew ?_ | refine Up.drewN ?_ _ | refine Up.setCell ?_ ?_ _ | refine Up.call ?_ (by assumption)) | go_size))⟩
  subst h4
  obtain rfl : r = true := by rw [← HR.out]; simp [bareC]
  go_enter Tryz.func162, Tryz.ntmps162
  go_wp2
  go_ret
  exact ⟨rfl, by (repeat' (first | (with_reducible first | exact Up.refl _ | assumption | refine Up.alloc ?_ _ | refine Up.drew ?_ | refine Up.drewN ?_ _ | refine Up.setCell ?_ ?_ _ | refine Up.call ?_ (by assumption)) | go_size))⟩

set_option maxRecDepth 8000 in
theorem bare_FFTTF (k n : Int) (t : List UInt8) (ka : Option Addr) (kl kc : Nat) (la : Option Addr) (ll lc : Nat) (da : Option Addr) (dl dc : Nat) (r : Bool) (hr : bareC n t kl ll dl false false true true false = r) (w : World) :
    Calls Tryz.prog 162 #[.agg #[.int .i64 k, .int .i64 n, .string ⟨t.toArray⟩, .slice ka kl kc, .slice la ll lc, .slice da dl dc], .bool false, .bool false, .bool true, .bool true, .bool false] w fun e w' => e = .returned (.bool r) ∧ Up w w' := by
  have HR := Lib.hid hr
  clear hr
  by_cases h0 : n = 0
  rotate_left
  · obtain rfl : r = false := by rw [← HR.out]; simp [bareC, h0]
    have d0 : ((n : Int) == 0) = false := by simp [h0]
    clear h0
    go_enter Tryz.func162, Tryz.ntmps162
    go_wp2
    go_ret
    exact ⟨rfl, by (repeat' (first | (with_reducible first | exact Up.refl _ | assumption | refine Up.alloc ?_ _ | refine Up.drew ?_ | refine Up.drewN ?_ _ | refine Up.setCell ?_ ?_ _ | refine Up.call ?_ (by assumption)) | go_size))⟩
  subst h0
  by_cases h1 : t = []
  rotate_left
  · obtain rfl : r = false := by rw [← HR.out]; simp [bareC, h1]
    have d1 : t.isEmpty = false := by simpa using h1
    go_enter Tryz.func162, Tryz.ntmps162
    go_wp2
    go_ret
    exact ⟨rfl, by (repeat' (first | (with_reducible first | exact Up.refl _ | assumption | refine Up.alloc ?_ _ | refine Up.drew ?_ | refine Up.drewN ?_ _ | refine Up.setCell ?_ ?_ _ | refine Up.call ?_ (by assumption)) | go_size))⟩
  subst h1
  by_cases h4 : dl = 0
  rotate_left
  · obtain rfl : r = false := by rw [← HR.out]; simp [bareC, h4]
    have d4 : ((dl : Int) == 0) = false := by simp [h4]
    clear h4
    go_enter Tryz.func162, Tryz.ntmps162
    go_wp2
    go_ret
    exact ⟨rfl, by (repeat' (first | (with_reducible first | exact Up.refl _ | assumption | refine Up.alloc ?_ _ | refine Up.drew ?_ | refine Up.drewN ?_ _ | refine Up.setCell ?_ ?_ _ | refine Up.call ?_ (by assumption)) | go_size))⟩
  subst h4
  obtain rfl : r = true := by rw [← HR.out]; simp [bareC]
  go_enter Tryz.func162, Tryz.ntmps162
  go_wp2
  go_ret
  exact ⟨rfl, by (repeat' (first | (with_reducible first | exact Up.refl _ | assumption | refine Up.alloc ?_ _ | refine Up.drew ?_ | refine Up.drewN ?_ _ | refine Up.setCell ?_ ?_ _ | refine Up.call ?_ (by assumption)) | go_size))⟩

set_option maxRecDepth 8000 in
theorem bare_FFTTT (k n : Int) (t : List UInt8) (ka : Option Addr) (kl kc : Nat) (la : Option Addr) (ll lc : Nat) (da : Option Addr) (dl dc : Nat) (r : Bool) (hr : bareC n t kl ll dl false false true true true = r) (w : World) :
    Calls Tryz.prog 162 #[.agg #[.int .i64 k, .int .i64 n, .string ⟨t.toArray⟩, .slice ka kl kc, .slice la ll lc, .slice da dl dc], .bool false, .bool false, .bool true, .bool true, .bool true] w fun e w' => e = .returned (.bool r) ∧ Up w w' := by
  have HR := Lib.hid hr
  clear hr
  by_cases h0 : n = 0
  rotate_left
  · obtain rfl : r = false := by rw [← HR.out]; simp [bareC, h0]
    have d0 : ((n : Int) == 0) = false := by simp [h0]
    clear h0
    go_enter Tryz.func162, Tryz.ntmps162
    go_wp2
    go_ret
    exact ⟨rfl, by (repeat' (first | (with_reducible first | exact Up.refl _ | assumption | refine Up.alloc ?_ _ | refine Up.drew ?_ | refine Up.drewN ?_ _ | refine Up.setCell ?_ ?_ _ | refine Up.call ?_ (by assumption)) | go_size))⟩
  subst h0
  by_cases h1 : t = []
  rotate_left
  · obtain rfl : r = false := by rw [← HR.out]; simp [bareC, h1]
    have d1 : t.isEmpty = false := by simpa using h1
    go_enter Tryz.func162, Tryz.ntmps162
    go_wp2
    go_ret
    exact ⟨rfl, by (repeat' (first | (with_reducible first | exact Up.refl _ | assumption | refine Up.alloc ?_ _ | refine Up.drew ?_ | refine Up.drewN ?_ _ | refine Up.setCell ?_ ?_ _ | refine Up.call ?_ (by assumption)) | go_size))⟩
  subst h1
  obtain rfl : r = true := by rw [← HR.out]; simp [bareC]
  go_enter Tryz.func162, Tryz.ntmps162
  go_wp2
  go_ret
  exact ⟨rfl, by (repeat' (first | (with_reducible first | exact Up.refl _ | assumption | refine Up.alloc ?_ _ | refine Up.drew ?_ | refine Up.drewN ?_ _ | refine Up.setCell ?_ ?_ _ | refine Up.call ?_ (by assumption)) | go_size))⟩

theorem contains_calls (ks : List (List UInt8)) (a : Option Addr) (kl kc j c : Nat) (x : List UInt8) (w : World) (h : Sl 1 kcells w a kl kc ks) (hj : j ≤ kl) :
    Calls Tryz.prog 166 #[.slice a j c, .string ⟨x.toArray⟩] w fun e w' => e = .returned (.bool ((ks.take j).contains x)) ∧ w' = w := by
  by_cases h0 : j = 0
  · subst h0
    refine (Tryz.slices_Contains_string_empty a c ⟨x.toArray⟩ w).mono ?_
    rintro e w' ⟨rfl, rfl⟩
    exact ⟨by simp, rfl⟩
  · obtain ⟨b, o, rfl, hb, hc⟩ := sl_some h (by omega)
    have hl := h.2.2.1
    have hm := h.2.1
    have hm1 := h.1
    have e : (⟨x.toArray⟩ : ByteArray) ∈ (ks.map (fun s => (⟨s.toArray⟩ : ByteArray))).take j ↔ x ∈ ks.take j := by
      rw [← List.map_take, List.mem_map]
      exact ⟨fun ⟨a, ha, he⟩ => by injection he with he; have e2 : a = x := by simpa using congrArg Array.toList he
                                   rw [← e2]; exact ha, fun h => ⟨x, h, rfl⟩⟩
    refine (Tryz.slices_Contains_string b o j c (ks.map (fun s => (⟨s.toArray⟩ : ByteArray))) ⟨x.toArray⟩ w (by simp; omega) (by omega) (fun i hi => ?_)).mono ?_
    · simp only [List.length_map] at hi
      have := hc i ks[i] 0 _ (List.getElem?_eq_getElem hi) rfl
      rw [Nat.mul_one, Nat.add_zero] at this
      rw [this, List.getD_eq_getElem?_getD, List.getElem?_map, List.getElem?_eq_getElem hi]
      rfl
    · rintro e2 w' ⟨rfl, rfl⟩
      refine ⟨?_, rfl⟩
      congr 2
      rw [Bool.eq_iff_iff, Lib.containsS_iff, List.contains_iff_mem]
      exact e
/-- all keys are names, and no two the same -/
def distOk (ks : List (List UInt8)) (i : Nat) : Bool := namedB (ks.getD i []) && !(ks.take i).contains (ks.getD i [])
def distR (ks : List (List UInt8)) : Bool := (List.range ks.length).all (distOk ks)
theorem range_step {p : Nat → Bool} {k : Nat} (h : (List.range k).all p = true) (hc : p k = true) : (List.range (k + 1)).all p = true := by
  rw [List.range_succ, List.all_append, h]
  simp [hc]
theorem range_miss {p : Nat → Bool} {k n : Nat} (hk : k < n) (hc : p k = false) : (List.range n).all p = false := by
  rw [List.all_eq_false]
  exact ⟨k, List.mem_range.2 hk, by simp [hc]⟩
set_option maxRecDepth 8000 in
set_option maxHeartbeats 2000000 in
theorem distinct_calls (ks : List (List UInt8)) (a : Option Addr) (kl kc : Nat) (r : Bool) (hr : distR ks = r) (w : World) (h : Sl 1 kcells w a kl kc ks) :
    Calls Tryz.prog 165 #[.slice a kl kc] w fun e w' => e = .returned (.bool r) ∧ Up w w' := by
  have HR := Lib.hid hr
  have H := Lib.hid h
  have HN := Lib.hid h.2.2.1
  have h1 := h.1
  have h2 := h.2.1
  clear hr h
  go_enter Tryz.func165, Tryz.ntmps165
  go_wp2
  go_loopw [7] (fun i wr => ∃ j : Nat, j ≤ kl ∧ i = .int .i64 j ∧ Hid ((List.range j).all (distOk ks) = true) ∧ Up w wr) (fun i _ => kl - (intOf i).toNat)
  case atStart => exact ⟨0, Nat.zero_le _, rfl, Lib.hid rfl, Up.refl _⟩
  case round =>
    obtain ⟨j, hj, rfl, HA, hup⟩ := hrel
    have HU := Lib.hid hup
    clear hup
    by_cases hlt : j < kl
    · obtain ⟨b, o, rfl, hb, hc⟩ := sl_some H.out (by omega)
      obtain ⟨s, hs⟩ : ∃ s, ks[j]? = some s := ⟨_, List.getElem?_eq_getElem (by have := HN.out; omega)⟩
      have hg : ks.getD j [] = s := by rw [List.getD_eq_getElem?_getD, hs]; rfl
      have q0 : wr.cell? ⟨b, o + j, none⟩ = some (.string ⟨s.toArray⟩) := by have := (HU.out.cells.1 b _ hb).trans (hc j s 0 _ hs rfl); simpa using this
      have lb : b < wr.heap.size := Nat.lt_of_lt_of_le hb HU.out.size
      have HG := Lib.hid hg
      have HJ := Lib.hid (show j < ks.length by have := HN.out; omega)
      clear hc hs hg
      by_cases hn : namedB s = true
      · have HM := Lib.hid hn
        obtain ⟨x, hx⟩ : ∃ x, (ks.take j).contains s = x := ⟨_, rfl⟩
        have HX := Lib.hid hx
        clear hn hx
        cases x
        · go_wp2_with (first
            | (go_at_call 163; ((with_reducible refine (named_calls s true HM.out _).mono ?_); rintro e w2 ⟨rfl, rfl⟩))
            | (go_at_call 166; ((with_reducible refine (contains_calls ks _ kl kc j _ s _ (sl_up H.out (by first | exact HU.out | exact Up.drew HU.out)) (by omega)).mono ?_); rw [HX.out]; rintro e w2 ⟨rfl, hw⟩; obtain rfl := hw.symm; clear hw)))
          go_roundw
          case rel => exact ⟨j + 1, by omega, by go_num, Lib.hid (range_step HA.out (by simp only [distOk, HG.out, HM.out, HX.out, Bool.not_false, Bool.and_self])), HU.out⟩
          case measure => simp [intOf]; omega
        · obtain rfl : r = false := by rw [← HR.out]; exact range_miss HJ.out (by simp only [distOk, HG.out, HX.out, Bool.not_true, Bool.and_false])
          go_wp2_with (first
            | (go_at_call 163; ((with_reducible refine (named_calls s true HM.out _).mono ?_); rintro e w2 ⟨rfl, rfl⟩))
            | (go_at_call 166; ((with_reducible refine (contains_calls ks _ kl kc j _ s _ (sl_up H.out (by first | exact HU.out | exact Up.drew HU.out)) (by omega)).mono ?_); rw [HX.out]; rintro e w2 ⟨rfl, hw⟩; obtain rfl := hw.symm; clear hw)))
          go_ret
          exact ⟨rfl, HU.out⟩
      · have HM := Lib.hid (Bool.eq_false_iff.2 hn)
        clear hn
        obtain rfl : r = false := by rw [← HR.out]; exact range_miss HJ.out (by simp only [distOk, HG.out, HM.out, Bool.false_and])
        go_wp2_with (go_at_call 163; ((with_reducible refine (named_calls s false HM.out _).mono ?_); rintro e w2 ⟨rfl, rfl⟩))
        go_ret
        exact ⟨rfl, HU.out⟩
    · have hcast : decide (j < kl) = false := decide_eq_false hlt
      obtain rfl : kl = j := by omega
      obtain rfl : r = true := by rw [← HR.out]; unfold distR; rw [HN.out]; exact HA.out
      go_wp2
      go_ret
      exact ⟨rfl, HU.out⟩

end Go.Proofs.YtpellcdggaeppaaGreatDoor.Pob
end

section
namespace Go.Proofs.YtpellcdggaeppaaGreatDoor.Pob
open Go.ChangeShapes Go.WideShapes Go.RowKit Go.Shelf
set_option linter.unusedVariables false
set_option linter.unusedSimpArgs false

def lenKey : List UInt8 := [76, 101, 110, 103, 116, 104]
/-- an object without parts is sound -/
def leafR : PO → Bool
  | .mk k n t ka kl kc ks la ll lc l da dl dc d =>
    if k = 0 then bareC n t kl ll dl false false false false false else
    if k = 1 then bareC n t kl ll dl true false false false false && (decide (n = 0) || decide (n = 1)) else
    if k = 2 then bareC n t kl ll dl true false false false false && decide (-2147483648 ≤ n) && decide (n ≤ 2147483647) else
    if k = 3 then bareC n t kl ll dl true false false false false && (decide (-2147483648 ≤ n) && decide (n ≤ 2147483647)) else
    if k = 4 then bareC n t kl ll dl false true false false false && namedB t else
    if k = 5 then bareC n t kl ll dl false true false false false && decide (t.length ≤ 65535) else
    if k = 8 then bareC n t kl ll dl true false false false false && decide (1 ≤ n) && decide (n ≤ 4096) else false
/-- an object with parts is, but for them -/
def nodeR (s : Bool) : PO → Bool
  | .mk k n t ka kl kc ks la ll lc l da dl dc d =>
    if k = 6 then bareC n t kl ll dl false false false true false else
    if k = 7 then bareC n t kl ll dl false false true true false && decide (kl = ll) && distR ks else
    if k = 9 then s && (bareC n t kl ll dl false false true true true && decide (kl = ll) && distR ks && !ks.contains lenKey) else false
/-- an object is sound, so deep at most; s: a stream may be -/
def sndR : Nat → Bool → PO → Bool
  | 0, s, o => leafR o
  | m + 1, s, o => leafR o || (nodeR s o && o.l.all (sndR m false))
theorem leaf9 {o : PO} (h : o.k = 9) : leafR o = false := by
  obtain ⟨k, n, t, ka, kl, kc, ks, la, ll, lc, l, da, dl, dc, d⟩ := o
  obtain rfl : k = 9 := h
  rfl
theorem leaf_node {o : PO} (h : o.k = 6 ∨ o.k = 7 ∨ o.k = 9) : leafR o = false := by
  obtain ⟨k, n, t, ka, kl, kc, ks, la, ll, lc, l, da, dl, dc, d⟩ := o
  have h2 : k = 6 ∨ k = 7 ∨ k = 9 := h
  rcases h2 with rfl | rfl | rfl <;> rfl
theorem node_leaf {o : PO} {s : Bool} (h : ¬ (o.k = 6 ∨ o.k = 7 ∨ o.k = 9)) : nodeR s o = false := by
  obtain ⟨k, n, t, ka, kl, kc, ks, la, ll, lc, l, da, dl, dc, d⟩ := o
  have h2 : ¬ (k = 6 ∨ k = 7 ∨ k = 9) := h
  simp only [not_or] at h2
  simp only [nodeR, if_neg h2.1, if_neg h2.2.1, if_neg h2.2.2]
theorem node_s {o : PO} {s : Bool} (h : o.k ≠ 9) : nodeR s o = nodeR true o := by
  obtain ⟨k, n, t, ka, kl, kc, ks, la, ll, lc, l, da, dl, dc, d⟩ := o
  have h2 : k ≠ 9 := h
  simp only [nodeR, if_neg h2]
theorem node_f9 {o : PO} (h : o.k = 9) : nodeR false o = false := by
  obtain ⟨k, n, t, ka, kl, kc, ks, la, ll, lc, l, da, dl, dc, d⟩ := o
  obtain rfl : k = 9 := h
  rfl
theorem snd_false (m : Nat) (c : PO) : sndR m false c = (sndR m true c && decide (c.k ≠ 9)) := by
  by_cases h : c.k = 9
  · cases m with
    | zero => simp [sndR, leaf9 h, h]
    | succ m => simp [sndR, leaf9 h, h, node_f9 h]
  · cases m with
    | zero => simp [sndR, h]
    | succ m => simp [sndR, h, node_s (s := false) h]
theorem fits_pob (n : Int) (r : Bool) (hr : (decide (-2147483648 ≤ n) && decide (n ≤ 2147483647)) = r) (w : World) : Calls Tryz.prog 111 #[.int .i64 n] w fun e w' => e = .returned (.bool r) ∧ w = w' := by
  by_cases h1 : -2147483648 ≤ n
  · by_cases h2 : n ≤ 2147483647
    · obtain rfl : r = true := by rw [← hr]; simp [h1, h2]
      clear hr
      go_enter Tryz.func111, Tryz.ntmps111
      go_wp2
      go_ret
      exact ⟨rfl, rfl⟩
    · obtain rfl : r = false := by rw [← hr]; simp [h2]
      clear hr
      have d2 : decide (n ≤ 2147483647) = false := decide_eq_false h2
      clear h2
      go_enter Tryz.func111, Tryz.ntmps111
      go_wp2
      go_ret
      exact ⟨rfl, rfl⟩
  · obtain rfl : r = false := by rw [← hr]; simp [h1]
    clear hr
    have d2 : decide (-2147483648 ≤ n) = false := decide_eq_false h1
    clear h1
    go_enter Tryz.func111, Tryz.ntmps111
    go_wp2
    go_ret
    exact ⟨rfl, rfl⟩
set_option maxRecDepth 8000 in
set_option maxHeartbeats 2000000 in
theorem sound_k0 (n : Int) (t : List UInt8) (ka : Option Addr) (kl kc : Nat) (la : Option Addr) (ll lc : Nat) (da : Option Addr) (dl dc : Nat) (q : Int) (r : Bool) (hr : (bareC n t kl ll dl false false false false false) = r) (w : World) :
    Calls Tryz.prog 148 #[.agg #[.int .i64 0, .int .i64 n, .string ⟨t.toArray⟩, .slice ka kl kc, .slice la ll lc, .slice da dl dc], .int .i64 q] w fun e w' => e = .returned (.bool r) ∧ Up w w' := by
  obtain ⟨v, hv⟩ : ∃ v, bareC n t kl ll dl false false false false false = v := ⟨_, rfl⟩
  have HB := Lib.hid hv
  rw [hv] at hr
  have HR := Lib.hid hr
  clear hr hv
  cases v
  · obtain rfl : r = false := by rw [← HR.out]; try simp
    go_enter Tryz.func148, Tryz.ntmps148
    go_wp2_with (go_at_call 162; ((with_reducible refine (bare_FFFFF 0 n t ka kl kc la ll lc da dl dc _ HB.out _).mono ?_); rintro e w1 ⟨rfl, hu1⟩; have k_w1 := hu1.cells.1; have f_w1 := hu1.cells.2; have z_w1 := hu1.size; (try simp at z_w1); have l0_w1 : w.heap.size < w1.heap.size := (by omega)))
    go_ret
    exact ⟨rfl, by (repeat' (first | (with_reducible first | exact Up.refl _ | assumption | refine Up.alloc ?_ _ | refine Up.drew ?_ | refine Up.drewN ?_ _ | refine Up.setCell ?_ ?_ _ | refine Up.call ?_ (by assumption)) | go_size))⟩
  · obtain rfl : r = true := by rw [← HR.out]; try simp []
    go_enter Tryz.func148, Tryz.ntmps148
    go_wp2_with (go_at_call 162; ((with_reducible refine (bare_FFFFF 0 n t ka kl kc la ll lc da dl dc _ HB.out _).mono ?_); rintro e w1 ⟨rfl, hu1⟩; have k_w1 := hu1.cells.1; have f_w1 := hu1.cells.2; have z_w1 := hu1.size; (try simp at z_w1); have l0_w1 : w.heap.size < w1.heap.size := (by omega)))
    go_ret
    exact ⟨rfl, by (repeat' (first | (with_reducible first | exact Up.refl _ | assumption | refine Up.alloc ?_ _ | refine Up.drew ?_ | refine Up.drewN ?_ _ | refine Up.setCell ?_ ?_ _ | refine Up.call ?_ (by assumption)) | go_size))⟩

set_option maxRecDepth 8000 in
set_option maxHeartbeats 2000000 in
theorem sound_k1 (n : Int) (t : List UInt8) (ka : Option Addr) (kl kc : Nat) (la : Option Addr) (ll lc : Nat) (da : Option Addr) (dl dc : Nat) (q : Int) (r : Bool) (hr : (bareC n t kl ll dl true false false false false && (decide (n = 0) || decide (n = 1))) = r) (w : World) :
    Calls Tryz.prog 148 #[.agg #[.int .i64 1, .int .i64 n, .string ⟨t.toArray⟩, .slice ka kl kc, .slice la ll lc, .slice da dl dc], .int .i64 q] w fun e w' => e = .returned (.bool r) ∧ Up w w' := by
  obtain ⟨v, hv⟩ : ∃ v, bareC n t kl ll dl true false false false false = v := ⟨_, rfl⟩
  have HB := Lib.hid hv
  rw [hv] at hr
  have HR := Lib.hid hr
  clear hr hv
  cases v
  · obtain rfl : r = false := by rw [← HR.out]; try simp
    go_enter Tryz.func148, Tryz.ntmps148
    go_wp2_with (go_at_call 162; ((with_reducible refine (bare_TFFFF 1 _ t ka kl kc la ll lc da dl dc _ HB.out _).mono ?_); rintro e w1 ⟨rfl, hu1⟩; have k_w1 := hu1.cells.1; have f_w1 := hu1.cells.2; have z_w1 := hu1.size; (try simp at z_w1); have l0_w1 : w.heap.size < w1.heap.size := (by omega)))
    go_ret
    exact ⟨rfl, by (repeat' (first | (with_reducible first | exact Up.refl _ | assumption | refine Up.alloc ?_ _ | refine Up.drew ?_ | refine Up.drewN ?_ _ | refine Up.setCell ?_ ?_ _ | refine Up.call ?_ (by assumption)) | go_size))⟩
  · by_cases h0 : n = 0
    · subst h0
      obtain rfl : r = true := by rw [← HR.out]; rfl
      go_enter Tryz.func148, Tryz.ntmps148
      go_wp2_with (go_at_call 162; ((with_reducible refine (bare_TFFFF 1 _ t ka kl kc la ll lc da dl dc _ HB.out _).mono ?_); rintro e w1 ⟨rfl, hu1⟩; have k_w1 := hu1.cells.1; have f_w1 := hu1.cells.2; have z_w1 := hu1.size; (try simp at z_w1); have l0_w1 : w.heap.size < w1.heap.size := (by omega)))
      go_ret
      exact ⟨rfl, by (repeat' (first | (with_reducible first | exact Up.refl _ | assumption | refine Up.alloc ?_ _ | refine Up.drew ?_ | refine Up.drewN ?_ _ | refine Up.setCell ?_ ?_ _ | refine Up.call ?_ (by assumption)) | go_size))⟩
    by_cases h1 : n = 1
    · subst h1
      obtain rfl : r = true := by rw [← HR.out]; rfl
      go_enter Tryz.func148, Tryz.ntmps148
      go_wp2_with (go_at_call 162; ((with_reducible refine (bare_TFFFF 1 _ t ka kl kc la ll lc da dl dc _ HB.out _).mono ?_); rintro e w1 ⟨rfl, hu1⟩; have k_w1 := hu1.cells.1; have f_w1 := hu1.cells.2; have z_w1 := hu1.size; (try simp at z_w1); have l0_w1 : w.heap.size < w1.heap.size := (by omega)))
      go_ret
      exact ⟨rfl, by (repeat' (first | (with_reducible first | exact Up.refl _ | assumption | refine Up.alloc ?_ _ | refine Up.drew ?_ | refine Up.drewN ?_ _ | refine Up.setCell ?_ ?_ _ | refine Up.call ?_ (by assumption)) | go_size))⟩
    obtain rfl : r = false := by rw [← HR.out]; simp [h0, h1]
    have d0 : ((n : Int) == 0) = false := by simp [h0]
    have d1 : ((n : Int) == 1) = false := by simp [h1]
    clear h0 h1
    go_enter Tryz.func148, Tryz.ntmps148
    go_wp2_with (go_at_call 162; ((with_reducible refine (bare_TFFFF 1 _ t ka kl kc la ll lc da dl dc _ HB.out _).mono ?_); rintro e w1 ⟨rfl, hu1⟩; have k_w1 := hu1.cells.1; have f_w1 := hu1.cells.2; have z_w1 := hu1.size; (try simp at z_w1); have l0_w1 : w.heap.size < w1.heap.size := (by omega)))
    go_ret
    exact ⟨rfl, by (repeat' (first | (with_reducible first | exact Up.refl _ | assumption | refine Up.alloc ?_ _ | refine Up.drew ?_ | refine Up.drewN ?_ _ | refine Up.setCell ?_ ?_ _ | refine Up.call ?_ (by assumption)) | go_size))⟩

set_option maxRecDepth 8000 in
set_option maxHeartbeats 2000000 in
theorem sound_k2 (n : Int) (t : List UInt8) (ka : Option Addr) (kl kc : Nat) (la : Option Addr) (ll lc : Nat) (da : Option Addr) (dl dc : Nat) (q : Int) (r : Bool) (hr : (bareC n t kl ll dl true false false false false && decide (-2147483648 ≤ n) && decide (n ≤ 2147483647)) = r) (w : World) :
    Calls Tryz.prog 148 #[.agg #[.int .i64 2, .int .i64 n, .string ⟨t.toArray⟩, .slice ka kl kc, .slice la ll lc, .slice da dl dc], .int .i64 q] w fun e w' => e = .returned (.bool r) ∧ Up w w' := by
  obtain ⟨v, hv⟩ : ∃ v, bareC n t kl ll dl true false false false false = v := ⟨_, rfl⟩
  have HB := Lib.hid hv
  rw [hv] at hr
  have HR := Lib.hid hr
  clear hr hv
  cases v
  · obtain rfl : r = false := by rw [← HR.out]; try simp
    go_enter Tryz.func148, Tryz.ntmps148
    go_wp2_with (go_at_call 162; ((with_reducible refine (bare_TFFFF 2 n t ka kl kc la ll lc da dl dc _ HB.out _).mono ?_); rintro e w1 ⟨rfl, hu1⟩; have k_w1 := hu1.cells.1; have f_w1 := hu1.cells.2; have z_w1 := hu1.size; (try simp at z_w1); have l0_w1 : w.heap.size < w1.heap.size := (by omega)))
    go_ret
    exact ⟨rfl, by (repeat' (first | (with_reducible first | exact Up.refl _ | assumption | refine Up.alloc ?_ _ | refine Up.drew ?_ | refine Up.drewN ?_ _ | refine Up.setCell ?_ ?_ _ | refine Up.call ?_ (by assumption)) | go_size))⟩
  · by_cases h0 : -2147483648 ≤ n
    rotate_left
    · obtain rfl : r = false := by rw [← HR.out]; simp [h0]
      have d0 : decide (-2147483648 ≤ n) = false := decide_eq_false (by omega)
      clear h0
      go_enter Tryz.func148, Tryz.ntmps148
      go_wp2_with (go_at_call 162; ((with_reducible refine (bare_TFFFF 2 n t ka kl kc la ll lc da dl dc _ HB.out _).mono ?_); rintro e w1 ⟨rfl, hu1⟩; have k_w1 := hu1.cells.1; have f_w1 := hu1.cells.2; have z_w1 := hu1.size; (try simp at z_w1); have l0_w1 : w.heap.size < w1.heap.size := (by omega)))
      go_ret
      exact ⟨rfl, by (repeat' (first | (with_reducible first | exact Up.refl _ | assumption | refine Up.alloc ?_ _ | refine Up.drew ?_ | refine Up.drewN ?_ _ | refine Up.setCell ?_ ?_ _ | refine Up.call ?_ (by assumption)) | go_size))⟩
    have d0 : decide (-2147483648 ≤ n) = true := decide_eq_true (by omega)
    by_cases h1 : n ≤ 2147483647
    rotate_left
    · obtain rfl : r = false := by rw [← HR.out]; simp [h0, h1]
      have d1 : decide (n ≤ 2147483647) = false := decide_eq_false (by omega)
      clear h1
      go_enter Tryz.func148, Tryz.ntmps148
      go_wp2_with (go_at_call 162; ((with_reducible refine (bare_TFFFF 2 n t ka kl kc la ll lc da dl dc _ HB.out _).mono ?_); rintro e w1 ⟨rfl, hu1⟩; have k_w1 := hu1.cells.1; have f_w1 := hu1.cells.2; have z_w1 := hu1.size; (try simp at z_w1); have l0_w1 : w.heap.size < w1.heap.size := (by omega)))
      go_ret
      exact ⟨rfl, by (repeat' (first | (with_reducible first | exact Up.refl _ | assumption | refine Up.alloc ?_ _ | refine Up.drew ?_ | refine Up.drewN ?_ _ | refine Up.setCell ?_ ?_ _ | refine Up.call ?_ (by assumption)) | go_size))⟩
    have d1 : decide (n ≤ 2147483647) = true := decide_eq_true (by omega)
    obtain rfl : r = true := by rw [← HR.out]; try simp [h0, h1]
    clear h0 h1
    go_enter Tryz.func148, Tryz.ntmps148
    go_wp2_with (go_at_call 162; ((with_reducible refine (bare_TFFFF 2 n t ka kl kc la ll lc da dl dc _ HB.out _).mono ?_); rintro e w1 ⟨rfl, hu1⟩; have k_w1 := hu1.cells.1; have f_w1 := hu1.cells.2; have z_w1 := hu1.size; (try simp at z_w1); have l0_w1 : w.heap.size < w1.heap.size := (by omega)))
    go_ret
    exact ⟨rfl, by (repeat' (first | (with_reducible first | exact Up.refl _ | assumption | refine Up.alloc ?_ _ | refine Up.drew ?_ | refine Up.drewN ?_ _ | refine Up.setCell ?_ ?_ _ | refine Up.call ?_ (by assumption)) | go_size))⟩

set_option maxRecDepth 8000 in
set_option maxHeartbeats 2000000 in
theorem sound_k3 (n : Int) (t : List UInt8) (ka : Option Addr) (kl kc : Nat) (la : Option Addr) (ll lc : Nat) (da : Option Addr) (dl dc : Nat) (q : Int) (r : Bool) (hr : (bareC n t kl ll dl true false false false false && (decide (-2147483648 ≤ n) && decide (n ≤ 2147483647))) = r) (w : World) :
    Calls Tryz.prog 148 #[.agg #[.int .i64 3, .int .i64 n, .string ⟨t.toArray⟩, .slice ka kl kc, .slice la ll lc, .slice da dl dc], .int .i64 q] w fun e w' => e = .returned (.bool r) ∧ Up w w' := by
  obtain ⟨v, hv⟩ : ∃ v, bareC n t kl ll dl true false false false false = v := ⟨_, rfl⟩
  have HB := Lib.hid hv
  rw [hv] at hr
  have HR := Lib.hid hr
  clear hr hv
  cases v
  · obtain rfl : r = false := by rw [← HR.out]; try simp
    go_enter Tryz.func148, Tryz.ntmps148
    go_wp2_with (go_at_call 162; ((with_reducible refine (bare_TFFFF 3 n t ka kl kc la ll lc da dl dc _ HB.out _).mono ?_); rintro e w1 ⟨rfl, hu1⟩; have k_w1 := hu1.cells.1; have f_w1 := hu1.cells.2; have z_w1 := hu1.size; (try simp at z_w1); have l0_w1 : w.heap.size < w1.heap.size := (by omega)))
    go_ret
    exact ⟨rfl, by (repeat' (first | (with_reducible first | exact Up.refl _ | assumption | refine Up.alloc ?_ _ | refine Up.drew ?_ | refine Up.drewN ?_ _ | refine Up.setCell ?_ ?_ _ | refine Up.call ?_ (by assumption)) | go_size))⟩
  · obtain ⟨u, hu⟩ : ∃ u, (decide (-2147483648 ≤ n) && decide (n ≤ 2147483647)) = u := ⟨_, rfl⟩
    have HQ1 := Lib.hid hu
    rw [hu] at HR
    clear hu
    obtain rfl : u = r := by rw [← HR.out]; simp
    go_enter Tryz.func148, Tryz.ntmps148
    go_wp2_with (first | (go_at_call 162; ((with_reducible refine (bare_TFFFF 3 n t ka kl kc la ll lc da dl dc _ HB.out _).mono ?_); rintro e w1 ⟨rfl, hu1⟩; have k_w1 := hu1.cells.1; have f_w1 := hu1.cells.2; have z_w1 := hu1.size; (try simp at z_w1); have l0_w1 : w.heap.size < w1.heap.size := (by omega))) | (go_at_call 111; ((with_reducible refine (fits_pob n _ HQ1.out _).mono ?_); rintro e w2 ⟨rfl, rfl⟩)))
    go_ret
    exact ⟨rfl, by (repeat' (first | (with_reducible first | exact Up.refl _ | assumption | refine Up.alloc ?_ _ | refine Up.drew ?_ | refine Up.drewN ?_ _ | refine Up.setCell ?_ ?_ _ | refine Up.call ?_ (by assumption)) | go_size))⟩

set_option maxRecDepth 8000 in
set_option maxHeartbeats 2000000 in
theorem sound_k4 (n : Int) (t : List UInt8) (ka : Option Addr) (kl kc : Nat) (la : Option Addr) (ll lc : Nat) (da : Option Addr) (dl dc : Nat) (q : Int) (r : Bool) (hr : (bareC n t kl ll dl false true false false false && namedB t) = r) (w : World) :
    Calls Tryz.prog 148 #[.agg #[.int .i64 4, .int .i64 n, .string ⟨t.toArray⟩, .slice ka kl kc, .slice la ll lc, .slice da dl dc], .int .i64 q] w fun e w' => e = .returned (.bool r) ∧ Up w w' := by
  obtain ⟨v, hv⟩ : ∃ v, bareC n t kl ll dl false true false false false = v := ⟨_, rfl⟩
  have HB := Lib.hid hv
  rw [hv] at hr
  have HR := Lib.hid hr
  clear hr hv
  cases v
  · obtain rfl : r = false := by rw [← HR.out]; try simp
    go_enter Tryz.func148, Tryz.ntmps148
    go_wp2_with (go_at_call 162; ((with_reducible refine (bare_FTFFF 4 n t ka kl kc la ll lc da dl dc _ HB.out _).mono ?_); rintro e w1 ⟨rfl, hu1⟩; have k_w1 := hu1.cells.1; have f_w1 := hu1.cells.2; have z_w1 := hu1.size; (try simp at z_w1); have l0_w1 : w.heap.size < w1.heap.size := (by omega)))
    go_ret
    exact ⟨rfl, by (repeat' (first | (with_reducible first | exact Up.refl _ | assumption | refine Up.alloc ?_ _ | refine Up.drew ?_ | refine Up.drewN ?_ _ | refine Up.setCell ?_ ?_ _ | refine Up.call ?_ (by assumption)) | go_size))⟩
  · obtain ⟨u, hu⟩ : ∃ u, namedB t = u := ⟨_, rfl⟩
    have HQ1 := Lib.hid hu
    rw [hu] at HR
    clear hu
    obtain rfl : u = r := by rw [← HR.out]; simp
    go_enter Tryz.func148, Tryz.ntmps148
    go_wp2_with (first | (go_at_call 162; ((with_reducible refine (bare_FTFFF 4 n t ka kl kc la ll lc da dl dc _ HB.out _).mono ?_); rintro e w1 ⟨rfl, hu1⟩; have k_w1 := hu1.cells.1; have f_w1 := hu1.cells.2; have z_w1 := hu1.size; (try simp at z_w1); have l0_w1 : w.heap.size < w1.heap.size := (by omega))) | (go_at_call 163; ((with_reducible refine (named_calls t _ HQ1.out _).mono ?_); rintro e w2 ⟨rfl, rfl⟩)))
    go_ret
    exact ⟨rfl, by (repeat' (first | (with_reducible first | exact Up.refl _ | assumption | refine Up.alloc ?_ _ | refine Up.drew ?_ | refine Up.drewN ?_ _ | refine Up.setCell ?_ ?_ _ | refine Up.call ?_ (by assumption)) | go_size))⟩

set_option maxRecDepth 8000 in
set_option maxHeartbeats 2000000 in
theorem sound_k5 (n : Int) (t : List UInt8) (ka : Option Addr) (kl kc : Nat) (la : Option Addr) (ll lc : Nat) (da : Option Addr) (dl dc : Nat) (q : Int) (r : Bool) (hr : (bareC n t kl ll dl false true false false false && decide (t.length ≤ 65535)) = r) (w : World) :
    Calls Tryz.prog 148 #[.agg #[.int .i64 5, .int .i64 n, .string ⟨t.toArray⟩, .slice ka kl kc, .slice la ll lc, .slice da dl dc], .int .i64 q] w fun e w' => e = .returned (.bool r) ∧ Up w w' := by
  obtain ⟨v, hv⟩ : ∃ v, bareC n t kl ll dl false true false false false = v := ⟨_, rfl⟩
  have HB := Lib.hid hv
  rw [hv] at hr
  have HR := Lib.hid hr
  clear hr hv
  cases v
  · obtain rfl : r = false := by rw [← HR.out]; try simp
    go_enter Tryz.func148, Tryz.ntmps148
    go_wp2_with (go_at_call 162; ((with_reducible refine (bare_FTFFF 5 n t ka kl kc la ll lc da dl dc _ HB.out _).mono ?_); rintro e w1 ⟨rfl, hu1⟩; have k_w1 := hu1.cells.1; have f_w1 := hu1.cells.2; have z_w1 := hu1.size; (try simp at z_w1); have l0_w1 : w.heap.size < w1.heap.size := (by omega)))
    go_ret
    exact ⟨rfl, by (repeat' (first | (with_reducible first | exact Up.refl _ | assumption | refine Up.alloc ?_ _ | refine Up.drew ?_ | refine Up.drewN ?_ _ | refine Up.setCell ?_ ?_ _ | refine Up.call ?_ (by assumption)) | go_size))⟩
  · by_cases h0 : t.length ≤ 65535
    rotate_left
    · obtain rfl : r = false := by rw [← HR.out]; simp [h0]
      have d0 : decide ((t.length : Int) ≤ 65535) = false := decide_eq_false (by omega)
      clear h0
      go_enter Tryz.func148, Tryz.ntmps148
      go_wp2_with (go_at_call 162; ((with_reducible refine (bare_FTFFF 5 n t ka kl kc la ll lc da dl dc _ HB.out _).mono ?_); rintro e w1 ⟨rfl, hu1⟩; have k_w1 := hu1.cells.1; have f_w1 := hu1.cells.2; have z_w1 := hu1.size; (try simp at z_w1); have l0_w1 : w.heap.size < w1.heap.size := (by omega)))
      go_ret
      exact ⟨rfl, by (repeat' (first | (with_reducible first | exact Up.refl _ | assumption | refine Up.alloc ?_ _ | refine Up.drew ?_ | refine Up.drewN ?_ _ | refine Up.setCell ?_ ?_ _ | refine Up.call ?_ (by assumption)) | go_size))⟩
    have d0 : decide ((t.length : Int) ≤ 65535) = true := decide_eq_true (by omega)
    obtain rfl : r = true := by rw [← HR.out]; try simp [h0]
    clear h0
    go_enter Tryz.func148, Tryz.ntmps148
    go_wp2_with (go_at_call 162; ((with_reducible refine (bare_FTFFF 5 n t ka kl kc la ll lc da dl dc _ HB.out _).mono ?_); rintro e w1 ⟨rfl, hu1⟩; have k_w1 := hu1.cells.1; have f_w1 := hu1.cells.2; have z_w1 := hu1.size; (try simp at z_w1); have l0_w1 : w.heap.size < w1.heap.size := (by omega)))
    go_ret
    exact ⟨rfl, by (repeat' (first | (with_reducible first | exact Up.refl _ | assumption | refine Up.alloc ?_ _ | refine Up.drew ?_ | refine Up.drewN ?_ _ | refine Up.setCell ?_ ?_ _ | refine Up.call ?_ (by assumption)) | go_size))⟩

set_option maxRecDepth 8000 in
set_option maxHeartbeats 2000000 in
theorem sound_k8 (n : Int) (t : List UInt8) (ka : Option Addr) (kl kc : Nat) (la : Option Addr) (ll lc : Nat) (da : Option Addr) (dl dc : Nat) (q : Int) (r : Bool) (hr : (bareC n t kl ll dl true false false false false && decide (1 ≤ n) && decide (n ≤ 4096)) = r) (w : World) :
    Calls Tryz.prog 148 #[.agg #[.int .i64 8, .int .i64 n, .string ⟨t.toArray⟩, .slice ka kl kc, .slice la ll lc, .slice da dl dc], .int .i64 q] w fun e w' => e = .returned (.bool r) ∧ Up w w' := by
  obtain ⟨v, hv⟩ : ∃ v, bareC n t kl ll dl true false false false false = v := ⟨_, rfl⟩
  have HB := Lib.hid hv
  rw [hv] at hr
  have HR := Lib.hid hr
  clear hr hv
  cases v
  · obtain rfl : r = false := by rw [← HR.out]; try simp
    go_enter Tryz.func148, Tryz.ntmps148
    go_wp2_with (go_at_call 162; ((with_reducible refine (bare_TFFFF 8 n t ka kl kc la ll lc da dl dc _ HB.out _).mono ?_); rintro e w1 ⟨rfl, hu1⟩; have k_w1 := hu1.cells.1; have f_w1 := hu1.cells.2; have z_w1 := hu1.size; (try simp at z_w1); have l0_w1 : w.heap.size < w1.heap.size := (by omega)))
    go_ret
    exact ⟨rfl, by (repeat' (first | (with_reducible first | exact Up.refl _ | assumption | refine Up.alloc ?_ _ | refine Up.drew ?_ | refine Up.drewN ?_ _ | refine Up.setCell ?_ ?_ _ | refine Up.call ?_ (by assumption)) | go_size))⟩
  · by_cases h0 : 1 ≤ n
    rotate_left
    · obtain rfl : r = false := by rw [← HR.out]; simp [h0]
      have d0 : decide (1 ≤ n) = false := decide_eq_false (by omega)
      clear h0
      go_enter Tryz.func148, Tryz.ntmps148
      go_wp2_with (go_at_call 162; ((with_reducible refine (bare_TFFFF 8 n t ka kl kc la ll lc da dl dc _ HB.out _).mono ?_); rintro e w1 ⟨rfl, hu1⟩; have k_w1 := hu1.cells.1; have f_w1 := hu1.cells.2; have z_w1 := hu1.size; (try simp at z_w1); have l0_w1 : w.heap.size < w1.heap.size := (by omega)))
      go_ret
      exact ⟨rfl, by (repeat' (first | (with_reducible first | exact Up.refl _ | assumption | refine Up.alloc ?_ _ | refine Up.drew ?_ | refine Up.drewN ?_ _ | refine Up.setCell ?_ ?_ _ | refine Up.call ?_ (by assumption)) | go_size))⟩
    have d0 : decide (1 ≤ n) = true := decide_eq_true (by omega)
    by_cases h1 : n ≤ 4096
    rotate_left
    · obtain rfl : r = false := by rw [← HR.out]; simp [h0, h1]
      have d1 : decide (n ≤ 4096) = false := decide_eq_false (by omega)
      clear h1
      go_enter Tryz.func148, Tryz.ntmps148
      go_wp2_with (go_at_call 162; ((with_reducible refine (bare_TFFFF 8 n t ka kl kc la ll lc da dl dc _ HB.out _).mono ?_); rintro e w1 ⟨rfl, hu1⟩; have k_w1 := hu1.cells.1; have f_w1 := hu1.cells.2; have z_w1 := hu1.size; (try simp at z_w1); have l0_w1 : w.heap.size < w1.heap.size := (by omega)))
      go_ret
      exact ⟨rfl, by (repeat' (first | (with_reducible first | exact Up.refl _ | assumption | refine Up.alloc ?_ _ | refine Up.drew ?_ | refine Up.drewN ?_ _ | refine Up.setCell ?_ ?_ _ | refine Up.call ?_ (by assumption)) | go_size))⟩
    have d1 : decide (n ≤ 4096) = true := decide_eq_true (by omega)
    obtain rfl : r = true := by rw [← HR.out]; try simp [h0, h1]
    clear h0 h1
    go_enter Tryz.func148, Tryz.ntmps148
    go_wp2_with (go_at_call 162; ((with_reducible refine (bare_TFFFF 8 n t ka kl kc la ll lc da dl dc _ HB.out _).mono ?_); rintro e w1 ⟨rfl, hu1⟩; have k_w1 := hu1.cells.1; have f_w1 := hu1.cells.2; have z_w1 := hu1.size; (try simp at z_w1); have l0_w1 : w.heap.size < w1.heap.size := (by omega)))
    go_ret
    exact ⟨rfl, by (repeat' (first | (with_reducible first | exact Up.refl _ | assumption | refine Up.alloc ?_ _ | refine Up.drew ?_ | refine Up.drewN ?_ _ | refine Up.setCell ?_ ?_ _ | refine Up.call ?_ (by assumption)) | go_size))⟩
set_option maxRecDepth 8000 in
set_option maxHeartbeats 2000000 in
theorem sound_other (k n : Int) (t : List UInt8) (ka : Option Addr) (kl kc : Nat) (la : Option Addr) (ll lc : Nat) (da : Option Addr) (dl dc : Nat) (q : Int) (h : k < 0 ∨ 9 < k) (w : World) : Calls Tryz.prog 148 #[.agg #[.int .i64 k, .int .i64 n, .string ⟨t.toArray⟩, .slice ka kl kc, .slice la ll lc, .slice da dl dc], .int .i64 q] w fun e w' => e = .returned (.bool false) ∧ Up w w' := by
  rcases h with h | h
  · go_enter Tryz.func148, Tryz.ntmps148
    go_wp2
    go_ret
    exact ⟨rfl, by (repeat' (first | (with_reducible first | exact Up.refl _ | assumption | refine Up.alloc ?_ _ | refine Up.drew ?_ | refine Up.drewN ?_ _ | refine Up.setCell ?_ ?_ _ | refine Up.call ?_ (by assumption)) | go_size))⟩
  · go_enter Tryz.func148, Tryz.ntmps148
    go_wp2
    go_ret
    exact ⟨rfl, by (repeat' (first | (with_reducible first | exact Up.refl _ | assumption | refine Up.alloc ?_ _ | refine Up.drew ?_ | refine Up.drewN ?_ _ | refine Up.setCell ?_ ?_ _ | refine Up.call ?_ (by assumption)) | go_size))⟩

end Go.Proofs.YtpellcdggaeppaaGreatDoor.Pob
end

section
namespace Go.Proofs.YtpellcdggaeppaaGreatDoor.Pob
open Go.ChangeShapes Go.WideShapes Go.RowKit Go.Shelf
set_option linter.unusedVariables false
set_option linter.unusedSimpArgs false

set_option maxRecDepth 8000 in
set_option maxHeartbeats 2000000 in
theorem clos_calls (m j : Nat) (ih : ∀ (c : PO) (W : World), POk W c → lightR j c = true → Calls Tryz.prog 148 #[.agg c.cells.toArray, .int .i64 (m : Int)] W fun e w' => e = .returned (.bool (sndR m true c)) ∧ Up W w') (k n : Int) (t : List UInt8) (ka : Option Addr) (kl kc : Nat) (ks : List (List UInt8)) (la : Option Addr) (ll lc : Nat) (l : List PO) (da : Option Addr) (dl dc : Nat) (d : List UInt8) (bx : Nat) (w : World) (h : POk w (.mk k n t ka kl kc ks la ll lc l da dl dc d)) (hj : lightR j (.mk k n t ka kl kc ks la ll lc l da dl dc d) = true) (hb : w.cell? ⟨bx, 0, none⟩ = some (.int .i64 (m : Int))) (r : Bool) (hr : sndR m false (.mk k n t ka kl kc ks la ll lc l da dl dc d) = r) :
    Calls Tryz.prog 175 #[.agg #[.int .i64 k, .int .i64 n, .string ⟨t.toArray⟩, .slice ka kl kc, .slice la ll lc, .slice da dl dc], .pointer (some ⟨bx, 0, none⟩)] w fun e w' => e = .returned (.bool (!r)) ∧ Up w w' := by
  have lb := cell_lt hb
  obtain ⟨v, hv⟩ : ∃ v, sndR m true (.mk k n t ka kl kc ks la ll lc l da dl dc d) = v := ⟨_, rfl⟩
  have HS : Hid (∀ W, Up w W → Calls Tryz.prog 148 #[.agg #[.int .i64 k, .int .i64 n, .string ⟨t.toArray⟩, .slice ka kl kc, .slice la ll lc, .slice da dl dc], .int .i64 (m : Int)] W fun e w' => e = .returned (.bool v) ∧ Up W w') := Lib.hid (fun W hu => by rw [← hv]; exact ih (.mk k n t ka kl kc ks la ll lc l da dl dc d) W (h.up hu) hj)
  have HR := Lib.hid (show (v && decide (k ≠ 9)) = r by rw [← hr, snd_false, hv]; rfl)
  clear ih hv hr h hj
  cases v
  · obtain rfl : r = false := by rw [← HR.out]; rfl
    go_enter Tryz.func175, Tryz.ntmps175
    go_wp2_with (go_at_call 148; ((with_reducible refine (HS.out _ (by (repeat' (first | (with_reducible first | exact Up.refl _ | assumption | refine Up.alloc ?_ _ | refine Up.drew ?_ | refine Up.drewN ?_ _ | refine Up.setCell ?_ ?_ _ | refine Up.call ?_ (by assumption)) | go_size)))).mono ?_); rintro e w1 ⟨rfl, hu1⟩; have k_w1 := hu1.cells.1; have f_w1 := hu1.cells.2; have z_w1 := hu1.size; (try simp at z_w1); have l0_w1 : w.heap.size < w1.heap.size := (by omega)))
    go_ret
    exact ⟨rfl, by (repeat' (first | (with_reducible first | exact Up.refl _ | assumption | refine Up.alloc ?_ _ | refine Up.drew ?_ | refine Up.drewN ?_ _ | refine Up.setCell ?_ ?_ _ | refine Up.call ?_ (by assumption)) | go_size))⟩
  · by_cases h9 : k = 9
    · subst h9
      obtain rfl : r = false := by rw [← HR.out]; rfl
      go_enter Tryz.func175, Tryz.ntmps175
      go_wp2_with (go_at_call 148; ((with_reducible refine (HS.out _ (by (repeat' (first | (with_reducible first | exact Up.refl _ | assumption | refine Up.alloc ?_ _ | refine Up.drew ?_ | refine Up.drewN ?_ _ | refine Up.setCell ?_ ?_ _ | refine Up.call ?_ (by assumption)) | go_size)))).mono ?_); rintro e w1 ⟨rfl, hu1⟩; have k_w1 := hu1.cells.1; have f_w1 := hu1.cells.2; have z_w1 := hu1.size; (try simp at z_w1); have l0_w1 : w.heap.size < w1.heap.size := (by omega)))
      go_ret
      exact ⟨rfl, by (repeat' (first | (with_reducible first | exact Up.refl _ | assumption | refine Up.alloc ?_ _ | refine Up.drew ?_ | refine Up.drewN ?_ _ | refine Up.setCell ?_ ?_ _ | refine Up.call ?_ (by assumption)) | go_size))⟩
    · obtain rfl : r = true := by rw [← HR.out]; simp [h9]
      have d9 : ((k : Int) == 9) = false := by simp [h9]
      clear h9
      go_enter Tryz.func175, Tryz.ntmps175
      go_wp2_with (go_at_call 148; ((with_reducible refine (HS.out _ (by (repeat' (first | (with_reducible first | exact Up.refl _ | assumption | refine Up.alloc ?_ _ | refine Up.drew ?_ | refine Up.drewN ?_ _ | refine Up.setCell ?_ ?_ _ | refine Up.call ?_ (by assumption)) | go_size)))).mono ?_); rintro e w1 ⟨rfl, hu1⟩; have k_w1 := hu1.cells.1; have f_w1 := hu1.cells.2; have z_w1 := hu1.size; (try simp at z_w1); have l0_w1 : w.heap.size < w1.heap.size := (by omega)))
      go_ret
      exact ⟨rfl, by (repeat' (first | (with_reducible first | exact Up.refl _ | assumption | refine Up.alloc ?_ _ | refine Up.drew ?_ | refine Up.drewN ?_ _ | refine Up.setCell ?_ ?_ _ | refine Up.call ?_ (by assumption)) | go_size))⟩
set_option maxRecDepth 8000 in
set_option maxHeartbeats 4000000 in
theorem index_po (m j : Nat) (ih : ∀ (c : PO) (W : World), POk W c → lightR j c = true → Calls Tryz.prog 148 #[.agg c.cells.toArray, .int .i64 (m : Int)] W fun e w' => e = .returned (.bool (sndR m true c)) ∧ Up W w') (l : List PO) (a : Option Addr) (n c : Nat) (bx : Nat) (r : Bool) (hr : l.all (sndR m false) = r) (w : World) (h : Sl 6 PO.cells w a n c l) (hc : ∀ c ∈ l, POk w c) (hj : ∀ c ∈ l, lightR j c = true) (hb : w.cell? ⟨bx, 0, none⟩ = some (.int .i64 (m : Int))) (hn : n ≤ 300) :
    Calls Tryz.prog 180 #[.slice a n c, .func (.func 175) #[] #[.pointer (some ⟨bx, 0, none⟩)]] w fun e w' => (∃ i : Int, e = .returned (.int .i64 i) ∧ decide (0 ≤ i) = !r) ∧ Up w w' := by
  have HIH := Lib.hid ih
  have H := Lib.hid h
  have HC := Lib.hid hc
  have HJ := Lib.hid hj
  have HB := Lib.hid hb
  have HR := Lib.hid hr
  have HN := Lib.hid h.2.2.1
  have h1 := h.1
  have h2 := h.2.1
  clear ih h hc hj hb hr
  go_enter Tryz.func180, Tryz.ntmps180
  go_wp2
  go_loopw [8] (fun i wr => ∃ q : Nat, q ≤ n ∧ i = .int .i64 q ∧ Hid ((l.take q).all (sndR m false) = true) ∧ Hid (Up w wr)) (fun i _ => n - (intOf i).toNat)
  case atStart => exact ⟨0, Nat.zero_le _, rfl, Lib.hid rfl, Lib.hid (Up.refl _)⟩
  case round =>
    obtain ⟨q, hq, rfl, HA, HU⟩ := hrel
    by_cases hlt : q < n
    · have hcast : decide ((q : Int) < (n : Int)) = true := decide_eq_true (by omega)
      obtain ⟨b, o, rfl, hbl, hcc⟩ := sl_some H.out (by omega)
      obtain ⟨c1, hc1⟩ : ∃ c, l[q]? = some c := ⟨_, List.getElem?_eq_getElem (by have := HN.out; omega)⟩
      have HOK := Lib.hid (HC.out c1 (List.mem_of_getElem? hc1))
      have HLT := Lib.hid (HJ.out c1 (List.mem_of_getElem? hc1))
      obtain ⟨v, hv⟩ : ∃ v, sndR m false c1 = v := ⟨_, rfl⟩
      have HV := Lib.hid hv
      obtain ⟨ck, cn, ct, cka, ckl, ckc, cks, cla, cll, clc, cl, cda, cdl, cdc, cd⟩ := c1
      obtain ⟨e0, e1, e2, e3, e4, e5⟩ := po_at hbl hcc HU.out hc1
      have HC1 := Lib.hid hc1
      have lb : b < wr.heap.size := Nat.lt_of_lt_of_le hbl HU.out.size
      have HBX := Lib.hid ((HU.out.cells.1 bx 0 (cell_lt HB.out)).trans HB.out)
      clear hcc hc1 hv
      cases v
      · obtain rfl : r = false := by rw [← HR.out]; exact all_miss HC1.out HV.out
        go_wp2_with (go_at_call 175; ((with_reducible refine (clos_calls m j HIH.out ck cn ct cka ckl ckc cks cla cll clc cl cda cdl cdc cd bx _ (HOK.out.up HU.out) HLT.out HBX.out false HV.out).mono ?_); rintro e w1 ⟨rfl, hu1⟩))
        go_ret
        exact ⟨⟨q, rfl, by simp⟩, HU.out.call hu1⟩
      · go_wp2_with (go_at_call 175; ((with_reducible refine (clos_calls m j HIH.out ck cn ct cka ckl ckc cks cla cll clc cl cda cdl cdc cd bx _ (HOK.out.up HU.out) HLT.out HBX.out true HV.out).mono ?_); rintro e w1 ⟨rfl, hu1⟩))
        go_roundw
        case rel => exact ⟨q + 1, by omega, by go_num, Lib.hid (all_step HC1.out HA.out HV.out), Lib.hid (HU.out.call hu1)⟩
        case measure => simp [intOf]; omega
    · have hcast : decide ((q : Int) < (n : Int)) = false := decide_eq_false (by omega)
      obtain rfl : n = q := by omega
      obtain rfl : r = true := by rw [← HR.out]; exact all_full HN.out HA.out
      go_wp2
      go_ret
      exact ⟨⟨-1, rfl, by decide⟩, HU.out⟩
set_option maxRecDepth 8000 in
theorem all_calls (m j : Nat) (ih : ∀ (c : PO) (W : World), POk W c → lightR j c = true → Calls Tryz.prog 148 #[.agg c.cells.toArray, .int .i64 (m : Int)] W fun e w' => e = .returned (.bool (sndR m true c)) ∧ Up W w') (l : List PO) (a : Option Addr) (n c : Nat) (r : Bool) (hr : l.all (sndR m false) = r) (w : World) (h : Sl 6 PO.cells w a n c l) (hc : ∀ c ∈ l, POk w c) (hj : ∀ c ∈ l, lightR j c = true) (hn : n ≤ 300) :
    Calls Tryz.prog 164 #[.slice a n c, .int .i64 (m : Int)] w fun e w' => e = .returned (.bool r) ∧ Up w w' := by
  have hd : decide ((n : Int) ≤ 65535) = true := decide_eq_true (by omega)
  have HIH := Lib.hid ih
  have H := Lib.hid h
  have HC := Lib.hid hc
  have HJ := Lib.hid hj
  have HR := Lib.hid hr
  clear ih h hc hj hr
  have HCO : ∀ W, Up w W → ∀ bx, W.cell? ⟨bx, 0, none⟩ = some (.int .i64 (m : Int)) → Calls Tryz.prog 174 #[.slice a n c, .func (.func 175) #[] #[.pointer (some ⟨bx, 0, none⟩)]] W fun e w' => e = .returned (.bool (!r)) ∧ Up W w' := by
    intro W hu bx hb
    have HB := Lib.hid hb
    have HU := Lib.hid hu
    clear hb hu
    go_enter Tryz.func174, Tryz.ntmps174
    go_wp2_with (go_at_call 180; ((with_reducible refine (index_po m j HIH.out l a n c bx r HR.out _ (sl_up H.out HU.out) (fun c hc => (HC.out c hc).up HU.out) HJ.out HB.out hn).mono ?_); rintro E w1 ⟨⟨i, rfl, hi⟩, hu1⟩; have HI := Lib.hid hi; clear hi))
    go_ret
    exact ⟨by rw [← HI.out]; rfl, hu1⟩
  have HCH := Lib.hid HCO
  clear HCO
  go_enter Tryz.func164, Tryz.ntmps164
  go_wp2_with (go_at_call 174; ((with_reducible refine (HCH.out _ (by (repeat' (first | (with_reducible first | exact Up.refl _ | assumption | refine Up.alloc ?_ _ | refine Up.drew ?_ | refine Up.drewN ?_ _ | refine Up.setCell ?_ ?_ _ | refine Up.call ?_ (by assumption)) | go_size))) w.heap.size (Row.cell (show Row _ w.heap.size #[.int .i64 (m : Int)] by (repeat' (with_reducible first | assumption | (refine Row.at _ _ ?_; (simp; done)) | refine Row.alloc ?_ _ | refine Row.drew ?_ | refine Row.drewN ?_ _ | refine Row.other ?_ (by first | (simp; done) | (simp; omega) | omega) _ | refine Row.up ?_ (by assumption) | refine Row.chg ?_ (by assumption) (by first | (simp; done) | (simp; omega))))) 0 rfl)).mono ?_); rintro E w1 ⟨rfl, hu1⟩))
  go_ret
  exact ⟨by cases r <;> rfl, by (repeat' (first | (with_reducible first | exact Up.refl _ | assumption | refine Up.alloc ?_ _ | refine Up.drew ?_ | refine Up.drewN ?_ _ | refine Up.setCell ?_ ?_ _ | refine Up.call ?_ (by assumption)) | go_size))⟩
set_option maxRecDepth 8000 in
set_option maxHeartbeats 2000000 in
theorem sound_z6 (n : Int) (t : List UInt8) (ka : Option Addr) (kl kc : Nat) (la : Option Addr) (ll lc : Nat) (da : Option Addr) (dl dc : Nat) (w : World) : Calls Tryz.prog 148 #[.agg #[.int .i64 6, .int .i64 n, .string ⟨t.toArray⟩, .slice ka kl kc, .slice la ll lc, .slice da dl dc], .int .i64 0] w fun e w' => e = .returned (.bool false) ∧ Up w w' := by
  go_enter Tryz.func148, Tryz.ntmps148
  go_wp2
  go_ret
  exact ⟨rfl, by (repeat' (first | (with_reducible first | exact Up.refl _ | assumption | refine Up.alloc ?_ _ | refine Up.drew ?_ | refine Up.drewN ?_ _ | refine Up.setCell ?_ ?_ _ | refine Up.call ?_ (by assumption)) | go_size))⟩
set_option maxRecDepth 8000 in
set_option maxHeartbeats 4000000 in
theorem sound_k6 (n : Int) (t : List UInt8) (ka : Option Addr) (kl kc : Nat) (la : Option Addr) (ll lc : Nat) (da : Option Addr) (dl dc : Nat) (ks : List (List UInt8)) (l : List PO) (m j : Nat) (ih : ∀ (c : PO) (W : World), POk W c → lightR j c = true → Calls Tryz.prog 148 #[.agg c.cells.toArray, .int .i64 (m : Int)] W fun e w' => e = .returned (.bool (sndR m true c)) ∧ Up W w') (r : Bool) (hr : ((bareC n t kl ll dl false false false true false) && l.all (sndR m false)) = r) (w : World) (hk : Sl 1 kcells w ka kl kc ks) (hl : Sl 6 PO.cells w la ll lc l) (hc : ∀ c ∈ l, POk w c) (hj : ∀ c ∈ l, lightR j c = true) (h3 : ll ≤ 300) (h5 : dl ≤ 5000) (hm : m ≤ 100) :
    Calls Tryz.prog 148 #[.agg #[.int .i64 6, .int .i64 n, .string ⟨t.toArray⟩, .slice ka kl kc, .slice la ll lc, .slice da dl dc], .int .i64 ((m + 1 : Nat) : Int)] w fun e w' => e = .returned (.bool r) ∧ Up w w' := by
  have HIH := Lib.hid ih
  have HK := Lib.hid hk
  have HL := Lib.hid hl
  have HC := Lib.hid hc
  have HJ := Lib.hid hj
  obtain ⟨q, hq⟩ : ∃ q : Int, ((m + 1 : Nat) : Int) = q := ⟨_, rfl⟩
  rw [hq]
  have hq0 : 0 < q := by omega
  have hq1 : q ≤ 101 := by omega
  have HQ := Lib.hid (show q - 1 = (m : Int) by omega)
  clear hq
  obtain ⟨v, hv⟩ : ∃ v, bareC n t kl ll dl false false false true false = v := ⟨_, rfl⟩
  have HB := Lib.hid hv
  rw [hv] at hr
  have HR := Lib.hid hr
  clear hr hv ih hk hl hc hj
  cases v
  · obtain rfl : r = false := by rw [← HR.out]; simp
    go_enter Tryz.func148, Tryz.ntmps148
    go_wp2_with (go_at_call 162; ((with_reducible refine (bare_FFFTF 6 n t ka kl kc la ll lc da dl dc _ HB.out _).mono ?_); rintro e w1 ⟨rfl, hu1⟩; have k_w1 := hu1.cells.1; have f_w1 := hu1.cells.2; have z_w1 := hu1.size; (try simp at z_w1); have l0_w1 : w.heap.size < w1.heap.size := (by omega); have HU1 : Hid (Up w w1) := Lib.hid (by (repeat' (first | (with_reducible first | exact Up.refl _ | assumption | refine Up.alloc ?_ _ | refine Up.drew ?_ | refine Up.drewN ?_ _ | refine Up.setCell ?_ ?_ _ | refine Up.call ?_ (by assumption)) | go_size)))))
    go_ret
    exact ⟨rfl, HU1.out⟩
  · have HA : Hid (l.all (sndR m false) = r) := Lib.hid (by rw [← HR.out]; simp)
    go_enter Tryz.func148, Tryz.ntmps148
    go_wp2_with (first | (go_at_call 162; ((with_reducible refine (bare_FFFTF 6 n t ka kl kc la ll lc da dl dc _ HB.out _).mono ?_); rintro e w1 ⟨rfl, hu1⟩; have k_w1 := hu1.cells.1; have f_w1 := hu1.cells.2; have z_w1 := hu1.size; (try simp at z_w1); have l0_w1 : w.heap.size < w1.heap.size := (by omega); have HU1 : Hid (Up w w1) := Lib.hid (by (repeat' (first | (with_reducible first | exact Up.refl _ | assumption | refine Up.alloc ?_ _ | refine Up.drew ?_ | refine Up.drewN ?_ _ | refine Up.setCell ?_ ?_ _ | refine Up.call ?_ (by assumption)) | go_size))))) | (go_at_call 164; ((with_reducible rw [HQ.out]); (with_reducible refine (all_calls m j HIH.out l la ll lc _ HA.out _ (sl_up HL.out HU1.out) (fun c hc => (HC.out c hc).up HU1.out) HJ.out h3).mono ?_); rintro e w9 ⟨rfl, hu9⟩; have HU9 := Lib.hid (HU1.out.call hu9))))
    go_ret
    exact ⟨rfl, HU9.out⟩

set_option maxRecDepth 8000 in
set_option maxHeartbeats 2000000 in
theorem sound_z7 (n : Int) (t : List UInt8) (ka : Option Addr) (kl kc : Nat) (la : Option Addr) (ll lc : Nat) (da : Option Addr) (dl dc : Nat) (w : World) : Calls Tryz.prog 148 #[.agg #[.int .i64 7, .int .i64 n, .string ⟨t.toArray⟩, .slice ka kl kc, .slice la ll lc, .slice da dl dc], .int .i64 0] w fun e w' => e = .returned (.bool false) ∧ Up w w' := by
  go_enter Tryz.func148, Tryz.ntmps148
  go_wp2
  go_ret
  exact ⟨rfl, by (repeat' (first | (with_reducible first | exact Up.refl _ | assumption | refine Up.alloc ?_ _ | refine Up.drew ?_ | refine Up.drewN ?_ _ | refine Up.setCell ?_ ?_ _ | refine Up.call ?_ (by assumption)) | go_size))⟩
set_option maxRecDepth 8000 in
set_option maxHeartbeats 4000000 in
theorem sound_k7 (n : Int) (t : List UInt8) (ka : Option Addr) (kl kc : Nat) (la : Option Addr) (ll lc : Nat) (da : Option Addr) (dl dc : Nat) (ks : List (List UInt8)) (l : List PO) (m j : Nat) (ih : ∀ (c : PO) (W : World), POk W c → lightR j c = true → Calls Tryz.prog 148 #[.agg c.cells.toArray, .int .i64 (m : Int)] W fun e w' => e = .returned (.bool (sndR m true c)) ∧ Up W w') (r : Bool) (hr : ((bareC n t kl ll dl false false true true false && decide (kl = ll) && distR ks) && l.all (sndR m false)) = r) (w : World) (hk : Sl 1 kcells w ka kl kc ks) (hl : Sl 6 PO.cells w la ll lc l) (hc : ∀ c ∈ l, POk w c) (hj : ∀ c ∈ l, lightR j c = true) (h3 : ll ≤ 300) (h5 : dl ≤ 5000) (hm : m ≤ 100) :
    Calls Tryz.prog 148 #[.agg #[.int .i64 7, .int .i64 n, .string ⟨t.toArray⟩, .slice ka kl kc, .slice la ll lc, .slice da dl dc], .int .i64 ((m + 1 : Nat) : Int)] w fun e w' => e = .returned (.bool r) ∧ Up w w' := by
  have HIH := Lib.hid ih
  have HK := Lib.hid hk
  have HL := Lib.hid hl
  have HC := Lib.hid hc
  have HJ := Lib.hid hj
  obtain ⟨q, hq⟩ : ∃ q : Int, ((m + 1 : Nat) : Int) = q := ⟨_, rfl⟩
  rw [hq]
  have hq0 : 0 < q := by omega
  have hq1 : q ≤ 101 := by omega
  have HQ := Lib.hid (show q - 1 = (m : Int) by omega)
  clear hq
  obtain ⟨v, hv⟩ : ∃ v, bareC n t kl ll dl false false true true false = v := ⟨_, rfl⟩
  have HB := Lib.hid hv
  rw [hv] at hr
  have HR := Lib.hid hr
  clear hr hv ih hk hl hc hj
  cases v
  · obtain rfl : r = false := by rw [← HR.out]; simp
    go_enter Tryz.func148, Tryz.ntmps148
    go_wp2_with (go_at_call 162; ((with_reducible refine (bare_FFTTF 7 n t ka kl kc la ll lc da dl dc _ HB.out _).mono ?_); rintro e w1 ⟨rfl, hu1⟩; have k_w1 := hu1.cells.1; have f_w1 := hu1.cells.2; have z_w1 := hu1.size; (try simp at z_w1); have l0_w1 : w.heap.size < w1.heap.size := (by omega); have HU1 : Hid (Up w w1) := Lib.hid (by (repeat' (first | (with_reducible first | exact Up.refl _ | assumption | refine Up.alloc ?_ _ | refine Up.drew ?_ | refine Up.drewN ?_ _ | refine Up.setCell ?_ ?_ _ | refine Up.call ?_ (by assumption)) | go_size)))))
    go_ret
    exact ⟨rfl, HU1.out⟩
  · by_cases h0 : kl = ll
    rotate_left
    · obtain rfl : r = false := by rw [← HR.out]; simp [h0]
      have d0 : ((kl : Int) == (ll : Int)) = false := by simp; omega
      clear h0
      go_enter Tryz.func148, Tryz.ntmps148
      go_wp2_with (go_at_call 162; ((with_reducible refine (bare_FFTTF 7 n t ka kl kc la ll lc da dl dc _ HB.out _).mono ?_); rintro e w1 ⟨rfl, hu1⟩; have k_w1 := hu1.cells.1; have f_w1 := hu1.cells.2; have z_w1 := hu1.size; (try simp at z_w1); have l0_w1 : w.heap.size < w1.heap.size := (by omega); have HU1 : Hid (Up w w1) := Lib.hid (by (repeat' (first | (with_reducible first | exact Up.refl _ | assumption | refine Up.alloc ?_ _ | refine Up.drew ?_ | refine Up.drewN ?_ _ | refine Up.setCell ?_ ?_ _ | refine Up.call ?_ (by assumption)) | go_size)))))
      go_ret
      exact ⟨rfl, HU1.out⟩
    have d0 : ((kl : Int) == (ll : Int)) = true := by simp [h0]
    have HR := Lib.hid (show _ = r from by have h9 := HR.out; simp only [h0, decide_true, Bool.and_true, Bool.true_and] at h9; exact h9)
    obtain ⟨u, hu⟩ : ∃ u, distR ks = u := ⟨_, rfl⟩
    have HD := Lib.hid hu
    rw [hu] at HR
    clear hu
    cases u
    · obtain rfl : r = false := by rw [← HR.out]; simp
      clear h0
      go_enter Tryz.func148, Tryz.ntmps148
      go_wp2_with (first | (go_at_call 162; ((with_reducible refine (bare_FFTTF 7 n t ka kl kc la ll lc da dl dc _ HB.out _).mono ?_); rintro e w1 ⟨rfl, hu1⟩; have k_w1 := hu1.cells.1; have f_w1 := hu1.cells.2; have z_w1 := hu1.size; (try simp at z_w1); have l0_w1 : w.heap.size < w1.heap.size := (by omega); have HU1 : Hid (Up w w1) := Lib.hid (by (repeat' (first | (with_reducible first | exact Up.refl _ | assumption | refine Up.alloc ?_ _ | refine Up.drew ?_ | refine Up.drewN ?_ _ | refine Up.setCell ?_ ?_ _ | refine Up.call ?_ (by assumption)) | go_size))))) | (go_at_call 165; ((with_reducible refine (distinct_calls ks _ kl kc _ HD.out _ (sl_up HK.out HU1.out)).mono ?_); rintro e w2 ⟨rfl, hu2⟩; have k_w2 := hu2.cells.1; have f_w2 := hu2.cells.2; have z_w2 := hu2.size; (try simp at z_w2); have l0_w2 : w.heap.size < w2.heap.size := (by omega); have HU2 := Lib.hid (HU1.out.call hu2))))
      go_ret
      exact ⟨rfl, HU2.out⟩
    have HA : Hid (l.all (sndR m false) = r) := Lib.hid (by rw [← HR.out]; simp)
    clear h0
    go_enter Tryz.func148, Tryz.ntmps148
    go_wp2_with (first | (go_at_call 162; ((with_reducible refine (bare_FFTTF 7 n t ka kl kc la ll lc da dl dc _ HB.out _).mono ?_); rintro e w1 ⟨rfl, hu1⟩; have k_w1 := hu1.cells.1; have f_w1 := hu1.cells.2; have z_w1 := hu1.size; (try simp at z_w1); have l0_w1 : w.heap.size < w1.heap.size := (by omega); have HU1 : Hid (Up w w1) := Lib.hid (by (repeat' (first | (with_reducible first | exact Up.refl _ | assumption | refine Up.alloc ?_ _ | refine Up.drew ?_ | refine Up.drewN ?_ _ | refine Up.setCell ?_ ?_ _ | refine Up.call ?_ (by assumption)) | go_size))))) | (go_at_call 165; ((with_reducible refine (distinct_calls ks _ kl kc _ HD.out _ (sl_up HK.out HU1.out)).mono ?_); rintro e w2 ⟨rfl, hu2⟩; have k_w2 := hu2.cells.1; have f_w2 := hu2.cells.2; have z_w2 := hu2.size; (try simp at z_w2); have l0_w2 : w.heap.size < w2.heap.size := (by omega); have HU2 := Lib.hid (HU1.out.call hu2))) | (go_at_call 164; ((with_reducible rw [HQ.out]); (with_reducible refine (all_calls m j HIH.out l la ll lc _ HA.out _ (sl_up HL.out HU2.out) (fun c hc => (HC.out c hc).up HU2.out) HJ.out h3).mono ?_); rintro e w9 ⟨rfl, hu9⟩; have HU9 := Lib.hid (HU2.out.call hu9))))
    go_ret
    exact ⟨rfl, HU9.out⟩

set_option maxRecDepth 8000 in
set_option maxHeartbeats 2000000 in
theorem sound_z9 (n : Int) (t : List UInt8) (ka : Option Addr) (kl kc : Nat) (la : Option Addr) (ll lc : Nat) (da : Option Addr) (dl dc : Nat) (w : World) : Calls Tryz.prog 148 #[.agg #[.int .i64 9, .int .i64 n, .string ⟨t.toArray⟩, .slice ka kl kc, .slice la ll lc, .slice da dl dc], .int .i64 0] w fun e w' => e = .returned (.bool false) ∧ Up w w' := by
  go_enter Tryz.func148, Tryz.ntmps148
  go_wp2
  go_ret
  exact ⟨rfl, by (repeat' (first | (with_reducible first | exact Up.refl _ | assumption | refine Up.alloc ?_ _ | refine Up.drew ?_ | refine Up.drewN ?_ _ | refine Up.setCell ?_ ?_ _ | refine Up.call ?_ (by assumption)) | go_size))⟩
set_option maxRecDepth 8000 in
set_option maxHeartbeats 4000000 in
theorem sound_k9 (n : Int) (t : List UInt8) (ka : Option Addr) (kl kc : Nat) (la : Option Addr) (ll lc : Nat) (da : Option Addr) (dl dc : Nat) (ks : List (List UInt8)) (l : List PO) (m j : Nat) (ih : ∀ (c : PO) (W : World), POk W c → lightR j c = true → Calls Tryz.prog 148 #[.agg c.cells.toArray, .int .i64 (m : Int)] W fun e w' => e = .returned (.bool (sndR m true c)) ∧ Up W w') (r : Bool) (hr : ((bareC n t kl ll dl false false true true true && decide (kl = ll) && distR ks && !ks.contains lenKey) && l.all (sndR m false)) = r) (w : World) (hk : Sl 1 kcells w ka kl kc ks) (hl : Sl 6 PO.cells w la ll lc l) (hc : ∀ c ∈ l, POk w c) (hj : ∀ c ∈ l, lightR j c = true) (h3 : ll ≤ 300) (h5 : dl ≤ 5000) (hm : m ≤ 100) :
    Calls Tryz.prog 148 #[.agg #[.int .i64 9, .int .i64 n, .string ⟨t.toArray⟩, .slice ka kl kc, .slice la ll lc, .slice da dl dc], .int .i64 ((m + 1 : Nat) : Int)] w fun e w' => e = .returned (.bool r) ∧ Up w w' := by
  have HIH := Lib.hid ih
  have HK := Lib.hid hk
  have HL := Lib.hid hl
  have HC := Lib.hid hc
  have HJ := Lib.hid hj
  obtain ⟨q, hq⟩ : ∃ q : Int, ((m + 1 : Nat) : Int) = q := ⟨_, rfl⟩
  rw [hq]
  have hq0 : 0 < q := by omega
  have hq1 : q ≤ 101 := by omega
  have HQ := Lib.hid (show q - 1 = (m : Int) by omega)
  clear hq
  obtain ⟨v, hv⟩ : ∃ v, bareC n t kl ll dl false false true true true = v := ⟨_, rfl⟩
  have HB := Lib.hid hv
  rw [hv] at hr
  have HR := Lib.hid hr
  clear hr hv ih hk hl hc hj
  cases v
  · obtain rfl : r = false := by rw [← HR.out]; simp
    go_enter Tryz.func148, Tryz.ntmps148
    go_wp2_with (go_at_call 162; ((with_reducible refine (bare_FFTTT 9 n t ka kl kc la ll lc da dl dc _ HB.out _).mono ?_); rintro e w1 ⟨rfl, hu1⟩; have k_w1 := hu1.cells.1; have f_w1 := hu1.cells.2; have z_w1 := hu1.size; (try simp at z_w1); have l0_w1 : w.heap.size < w1.heap.size := (by omega); have HU1 : Hid (Up w w1) := Lib.hid (by (repeat' (first | (with_reducible first | exact Up.refl _ | assumption | refine Up.alloc ?_ _ | refine Up.drew ?_ | refine Up.drewN ?_ _ | refine Up.setCell ?_ ?_ _ | refine Up.call ?_ (by assumption)) | go_size)))))
    go_ret
    exact ⟨rfl, HU1.out⟩
  · by_cases h0 : kl = ll
    rotate_left
    · obtain rfl : r = false := by rw [← HR.out]; simp [h0]
      have d0 : ((kl : Int) == (ll : Int)) = false := by simp; omega
      clear h0
      go_enter Tryz.func148, Tryz.ntmps148
      go_wp2_with (go_at_call 162; ((with_reducible refine (bare_FFTTT 9 n t ka kl kc la ll lc da dl dc _ HB.out _).mono ?_); rintro e w1 ⟨rfl, hu1⟩; have k_w1 := hu1.cells.1; have f_w1 := hu1.cells.2; have z_w1 := hu1.size; (try simp at z_w1); have l0_w1 : w.heap.size < w1.heap.size := (by omega); have HU1 : Hid (Up w w1) := Lib.hid (by (repeat' (first | (with_reducible first | exact Up.refl _ | assumption | refine Up.alloc ?_ _ | refine Up.drew ?_ | refine Up.drewN ?_ _ | refine Up.setCell ?_ ?_ _ | refine Up.call ?_ (by assumption)) | go_size)))))
      go_ret
      exact ⟨rfl, HU1.out⟩
    have d0 : ((kl : Int) == (ll : Int)) = true := by simp [h0]
    have HR := Lib.hid (show _ = r from by have h9 := HR.out; simp only [h0, decide_true, Bool.and_true, Bool.true_and] at h9; exact h9)
    obtain ⟨u, hu⟩ : ∃ u, distR ks = u := ⟨_, rfl⟩
    have HD := Lib.hid hu
    rw [hu] at HR
    clear hu
    cases u
    · obtain rfl : r = false := by rw [← HR.out]; simp
      clear h0
      go_enter Tryz.func148, Tryz.ntmps148
      go_wp2_with (first | (go_at_call 162; ((with_reducible refine (bare_FFTTT 9 n t ka kl kc la ll lc da dl dc _ HB.out _).mono ?_); rintro e w1 ⟨rfl, hu1⟩; have k_w1 := hu1.cells.1; have f_w1 := hu1.cells.2; have z_w1 := hu1.size; (try simp at z_w1); have l0_w1 : w.heap.size < w1.heap.size := (by omega); have HU1 : Hid (Up w w1) := Lib.hid (by (repeat' (first | (with_reducible first | exact Up.refl _ | assumption | refine Up.alloc ?_ _ | refine Up.drew ?_ | refine Up.drewN ?_ _ | refine Up.setCell ?_ ?_ _ | refine Up.call ?_ (by assumption)) | go_size))))) | (go_at_call 165; ((with_reducible refine (distinct_calls ks _ kl kc _ HD.out _ (sl_up HK.out HU1.out)).mono ?_); rintro e w2 ⟨rfl, hu2⟩; have k_w2 := hu2.cells.1; have f_w2 := hu2.cells.2; have z_w2 := hu2.size; (try simp at z_w2); have l0_w2 : w.heap.size < w2.heap.size := (by omega); have HU2 := Lib.hid (HU1.out.call hu2))))
      go_ret
      exact ⟨rfl, HU2.out⟩
    obtain ⟨x, hx⟩ : ∃ x, ks.contains lenKey = x := ⟨_, rfl⟩
    have HX := Lib.hid hx
    have HTK := Lib.hid (show ks.take kl = ks from List.take_of_length_le (by have := HK.out.2.2.1; omega))
    rw [hx] at HR
    clear hx
    cases x
    rotate_left
    · obtain rfl : r = false := by rw [← HR.out]; simp
      clear h0
      go_enter Tryz.func148, Tryz.ntmps148
      go_wp2_with (first | (go_at_call 162; ((with_reducible refine (bare_FFTTT 9 n t ka kl kc la ll lc da dl dc _ HB.out _).mono ?_); rintro e w1 ⟨rfl, hu1⟩; have k_w1 := hu1.cells.1; have f_w1 := hu1.cells.2; have z_w1 := hu1.size; (try simp at z_w1); have l0_w1 : w.heap.size < w1.heap.size := (by omega); have HU1 : Hid (Up w w1) := Lib.hid (by (repeat' (first | (with_reducible first | exact Up.refl _ | assumption | refine Up.alloc ?_ _ | refine Up.drew ?_ | refine Up.drewN ?_ _ | refine Up.setCell ?_ ?_ _ | refine Up.call ?_ (by assumption)) | go_size))))) | (go_at_call 165; ((with_reducible refine (distinct_calls ks _ kl kc _ HD.out _ (sl_up HK.out HU1.out)).mono ?_); rintro e w2 ⟨rfl, hu2⟩; have k_w2 := hu2.cells.1; have f_w2 := hu2.cells.2; have z_w2 := hu2.size; (try simp at z_w2); have l0_w2 : w.heap.size < w2.heap.size := (by omega); have HU2 := Lib.hid (HU1.out.call hu2))) | (go_at_call 166; ((refine Calls.mono (show Calls _ _ #[_, .string ⟨#[76, 101, 110, 103, 116, 104]⟩] _ _ from contains_calls ks _ kl kc kl _ lenKey _ (sl_up HK.out HU2.out) (Nat.le_refl _)) ?_); rw [HTK.out, HX.out]; rintro e w3 ⟨rfl, hw⟩; obtain rfl := hw.symm; clear hw)))
      go_ret
      exact ⟨rfl, HU2.out⟩
    have d5 : decide ((dl : Int) ≤ 1048576) = true := decide_eq_true (by omega)
    have HA : Hid (l.all (sndR m false) = r) := Lib.hid (by rw [← HR.out]; simp)
    clear h0
    go_enter Tryz.func148, Tryz.ntmps148
    go_wp2_with (first | (go_at_call 162; ((with_reducible refine (bare_FFTTT 9 n t ka kl kc la ll lc da dl dc _ HB.out _).mono ?_); rintro e w1 ⟨rfl, hu1⟩; have k_w1 := hu1.cells.1; have f_w1 := hu1.cells.2; have z_w1 := hu1.size; (try simp at z_w1); have l0_w1 : w.heap.size < w1.heap.size := (by omega); have HU1 : Hid (Up w w1) := Lib.hid (by (repeat' (first | (with_reducible first | exact Up.refl _ | assumption | refine Up.alloc ?_ _ | refine Up.drew ?_ | refine Up.drewN ?_ _ | refine Up.setCell ?_ ?_ _ | refine Up.call ?_ (by assumption)) | go_size))))) | (go_at_call 165; ((with_reducible refine (distinct_calls ks _ kl kc _ HD.out _ (sl_up HK.out HU1.out)).mono ?_); rintro e w2 ⟨rfl, hu2⟩; have k_w2 := hu2.cells.1; have f_w2 := hu2.cells.2; have z_w2 := hu2.size; (try simp at z_w2); have l0_w2 : w.heap.size < w2.heap.size := (by omega); have HU2 := Lib.hid (HU1.out.call hu2))) | (go_at_call 166; ((refine Calls.mono (show Calls _ _ #[_, .string ⟨#[76, 101, 110, 103, 116, 104]⟩] _ _ from contains_calls ks _ kl kc kl _ lenKey _ (sl_up HK.out HU2.out) (Nat.le_refl _)) ?_); rw [HTK.out, HX.out]; rintro e w3 ⟨rfl, hw⟩; obtain rfl := hw.symm; clear hw)) | (go_at_call 164; ((with_reducible rw [HQ.out]); (with_reducible refine (all_calls m j HIH.out l la ll lc _ HA.out _ (sl_up HL.out HU2.out) (fun c hc => (HC.out c hc).up HU2.out) HJ.out h3).mono ?_); rintro e w9 ⟨rfl, hu9⟩; have HU9 := Lib.hid (HU2.out.call hu9))))
    go_ret
    exact ⟨rfl, HU9.out⟩

theorem psnd_calls : ∀ (m : Nat), m ≤ 100 → ∀ (j : Nat) (o : PO) (w : World), POk w o → lightR j o = true → Calls Tryz.prog 148 #[.agg o.cells.toArray, .int .i64 (m : Int)] w fun e w' => e = .returned (.bool (sndR m true o)) ∧ Up w w' := by
  intro m
  induction m with
  | zero =>
    intro hm j o w h hj
    cases h with
    | mk k n t ka kl kc ks la ll lc l da dl dc d hn hk hl hc hd =>
    rw [show sndR 0 true (.mk k n t ka kl kc ks la ll lc l da dl dc d) = leafR (.mk k n t ka kl kc ks la ll lc l da dl dc d) from rfl]
    show Calls _ _ #[.agg #[.int .i64 k, .int .i64 n, .string ⟨t.toArray⟩, .slice ka kl kc, .slice la ll lc, .slice da dl dc], .int .i64 0] _ _
    by_cases hk6 : k = 6
    · subst hk6; exact sound_z6 n t ka kl kc la ll lc da dl dc w
    by_cases hk7 : k = 7
    · subst hk7; exact sound_z7 n t ka kl kc la ll lc da dl dc w
    by_cases hk9 : k = 9
    · subst hk9; exact sound_z9 n t ka kl kc la ll lc da dl dc w
    by_cases hk0 : k = 0
    · subst hk0; exact sound_k0 n t ka kl kc la ll lc da dl dc _ _ rfl w
    by_cases hk1 : k = 1
    · subst hk1; exact sound_k1 n t ka kl kc la ll lc da dl dc _ _ rfl w
    by_cases hk2 : k = 2
    · subst hk2; exact sound_k2 n t ka kl kc la ll lc da dl dc _ _ rfl w
    by_cases hk3 : k = 3
    · subst hk3; exact sound_k3 n t ka kl kc la ll lc da dl dc _ _ rfl w
    by_cases hk4 : k = 4
    · subst hk4; exact sound_k4 n t ka kl kc la ll lc da dl dc _ _ rfl w
    by_cases hk5 : k = 5
    · subst hk5; exact sound_k5 n t ka kl kc la ll lc da dl dc _ _ rfl w
    by_cases hk8 : k = 8
    · subst hk8; exact sound_k8 n t ka kl kc la ll lc da dl dc _ _ rfl w
    have ho : k < 0 ∨ 9 < k := by omega
    rw [show leafR (.mk k n t ka kl kc ks la ll lc l da dl dc d) = false by simp only [leafR, if_neg hk0, if_neg hk1, if_neg hk2, if_neg hk3, if_neg hk4, if_neg hk5, if_neg hk8]]
    exact sound_other k n t ka kl kc la ll lc da dl dc _ ho w
  | succ m ih =>
    intro hm j o w h hj
    cases h with
    | mk k n t ka kl kc ks la ll lc l da dl dc d hn hk hl hc hd =>
    obtain ⟨j, rfl, j1, j2, j3, j4, j5, j6⟩ := lightR_elim hj
    have j7 : ll ≤ 300 := by rw [← hl.2.2.1]; exact j1
    have j8 : dl ≤ 5000 := by rw [← hd.2.2.1]; exact j4
    show Calls _ _ #[.agg #[.int .i64 k, .int .i64 n, .string ⟨t.toArray⟩, .slice ka kl kc, .slice la ll lc, .slice da dl dc], _] _ _
    by_cases hk6 : k = 6
    · subst hk6
      rw [show sndR (m + 1) true (.mk 6 n t ka kl kc ks la ll lc l da dl dc d) = (nodeR true (.mk 6 n t ka kl kc ks la ll lc l da dl dc d) && l.all (sndR m false)) by simp only [sndR, leaf_node (o := .mk 6 n t ka kl kc ks la ll lc l da dl dc d) (Or.inl rfl), Bool.false_or, PO.l]]
      exact sound_k6 n t ka kl kc la ll lc da dl dc ks l m j (fun c W h1 h2 => ih (by omega) j c W h1 h2) _ rfl w hk hl hc j6 j7 j8 (by omega)
    by_cases hk7 : k = 7
    · subst hk7
      rw [show sndR (m + 1) true (.mk 7 n t ka kl kc ks la ll lc l da dl dc d) = (nodeR true (.mk 7 n t ka kl kc ks la ll lc l da dl dc d) && l.all (sndR m false)) by simp only [sndR, leaf_node (o := .mk 7 n t ka kl kc ks la ll lc l da dl dc d) (Or.inr (Or.inl rfl)), Bool.false_or, PO.l]]
      exact sound_k7 n t ka kl kc la ll lc da dl dc ks l m j (fun c W h1 h2 => ih (by omega) j c W h1 h2) _ rfl w hk hl hc j6 j7 j8 (by omega)
    by_cases hk9 : k = 9
    · subst hk9
      rw [show sndR (m + 1) true (.mk 9 n t ka kl kc ks la ll lc l da dl dc d) = (nodeR true (.mk 9 n t ka kl kc ks la ll lc l da dl dc d) && l.all (sndR m false)) by simp only [sndR, leaf_node (o := .mk 9 n t ka kl kc ks la ll lc l da dl dc d) (Or.inr (Or.inr rfl)), Bool.false_or, PO.l]]
      exact sound_k9 n t ka kl kc la ll lc da dl dc ks l m j (fun c W h1 h2 => ih (by omega) j c W h1 h2) _ rfl w hk hl hc j6 j7 j8 (by omega)
    rw [show sndR (m + 1) true (.mk k n t ka kl kc ks la ll lc l da dl dc d) = leafR (.mk k n t ka kl kc ks la ll lc l da dl dc d) by simp only [sndR, node_leaf (o := .mk k n t ka kl kc ks la ll lc l da dl dc d) (s := true) (by simp only [PO.k, not_or]; exact ⟨hk6, hk7, hk9⟩), Bool.false_and, Bool.or_false]]
    by_cases hk0 : k = 0
    · subst hk0; exact sound_k0 n t ka kl kc la ll lc da dl dc _ _ rfl w
    by_cases hk1 : k = 1
    · subst hk1; exact sound_k1 n t ka kl kc la ll lc da dl dc _ _ rfl w
    by_cases hk2 : k = 2
    · subst hk2; exact sound_k2 n t ka kl kc la ll lc da dl dc _ _ rfl w
    by_cases hk3 : k = 3
    · subst hk3; exact sound_k3 n t ka kl kc la ll lc da dl dc _ _ rfl w
    by_cases hk4 : k = 4
    · subst hk4; exact sound_k4 n t ka kl kc la ll lc da dl dc _ _ rfl w
    by_cases hk5 : k = 5
    · subst hk5; exact sound_k5 n t ka kl kc la ll lc da dl dc _ _ rfl w
    by_cases hk8 : k = 8
    · subst hk8; exact sound_k8 n t ka kl kc la ll lc da dl dc _ _ rfl w
    have ho : k < 0 ∨ 9 < k := by omega
    rw [show leafR (.mk k n t ka kl kc ks la ll lc l da dl dc d) = false by simp only [leafR, if_neg hk0, if_neg hk1, if_neg hk2, if_neg hk3, if_neg hk4, if_neg hk5, if_neg hk8]]
    exact sound_other k n t ka kl kc la ll lc da dl dc _ ho w

end Go.Proofs.YtpellcdggaeppaaGreatDoor.Pob
end
