/- Package pobj: which fields an object has; which keys are distinct. No condition. -/
import Derived.Test.YtaafelkdhahaoaaDoorPobL
import Derived.Lib.SlicesS
namespace Go.Proofs.YtaafelkdhahaoaaDoor.Pob
open Go.ChangeShapes Go.WideShapes Go.RowKit Go.Shelf
set_option linter.unusedVariables false
set_option linter.unusedSimpArgs false


/-- an object has none of these fields -/
def bareC (n : Int) (t : List UInt8) (kl ll dl : Nat) (f1 f2 f3 f4 f5 : Bool) : Bool := (f1 || decide (n = 0)) && (f2 || decide (t = [])) && (f3 || decide (kl = 0)) && (f4 || decide (ll = 0)) && (f5 || decide (dl = 0))
set_option maxRecDepth 8000 in
theorem bare_FFFFF (k n : Int) (t : List UInt8) (ka : Option Addr) (kl kc : Nat) (la : Option Addr) (ll lc : Nat) (da : Option Addr) (dl dc : Nat) (r : Bool) (hr : bareC n t kl ll dl false false false false false = r) (w : World) :
    Calls Tryd.prog 38 #[.agg #[.int .i64 k, .int .i64 n, .string ⟨t.toArray⟩, .slice ka kl kc, .slice la ll lc, .slice da dl dc], .bool false, .bool false, .bool false, .bool false, .bool false] w fun e w' => e = .returned (.bool r) ∧ Up w w' := by
  have HR := Lib.hid hr
  clear hr
  by_cases h0 : n = 0
  rotate_left
  · obtain rfl : r = false := by rw [← HR.out]; simp [bareC, h0]
    have d0 : ((n : Int) == 0) = false := by simp [h0]
    clear h0
    go_enter Tryd.func38, Tryd.ntmps38
    go_wp2
    go_ret
    exact ⟨rfl, by (repeat' (first | (with_reducible exact Up.refl _) | (with_reducible assumption) | (with_reducible refine Up.alloc ?_ _) | (with_reducible refine Up.drew ?_) | (with_reducible refine Up.drewN ?_ _) | (with_reducible refine Up.setCell ?_ ?_ _) | (with_reducible refine Up.call ?_ (by with_reducible assumption)) | go_size))⟩
  subst h0
  by_cases h1 : t = []
  rotate_left
  · obtain rfl : r = false := by rw [← HR.out]; simp [bareC, h1]
    have d1 : t.isEmpty = false := by simpa using h1
    go_enter Tryd.func38, Tryd.ntmps38
    go_wp2
    go_ret
    exact ⟨rfl, by (repeat' (first | (with_reducible exact Up.refl _) | (with_reducible assumption) | (with_reducible refine Up.alloc ?_ _) | (with_reducible refine Up.drew ?_) | (with_reducible refine Up.drewN ?_ _) | (with_reducible refine Up.setCell ?_ ?_ _) | (with_reducible refine Up.call ?_ (by with_reducible assumption)) | go_size))⟩
  subst h1
  by_cases h2 : kl = 0
  rotate_left
  · obtain rfl : r = false := by rw [← HR.out]; simp [bareC, h2]
    have d2 : ((kl : Int) == 0) = false := by simp [h2]
    clear h2
    go_enter Tryd.func38, Tryd.ntmps38
    go_wp2
    go_ret
    exact ⟨rfl, by (repeat' (first | (with_reducible exact Up.refl _) | (with_reducible assumption) | (with_reducible refine Up.alloc ?_ _) | (with_reducible refine Up.drew ?_) | (with_reducible refine Up.drewN ?_ _) | (with_reducible refine Up.setCell ?_ ?_ _) | (with_reducible refine Up.call ?_ (by with_reducible assumption)) | go_size))⟩
  subst h2
  by_cases h3 : ll = 0
  rotate_left
  · obtain rfl : r = false := by rw [← HR.out]; simp [bareC, h3]
    have d3 : ((ll : Int) == 0) = false := by simp [h3]
    clear h3
    go_enter Tryd.func38, Tryd.ntmps38
    go_wp2
    go_ret
    exact ⟨rfl, by (repeat' (first | (with_reducible exact Up.refl _) | (with_reducible assumption) | (with_reducible refine Up.alloc ?_ _) | (with_reducible refine Up.drew ?_) | (with_reducible refine Up.drewN ?_ _) | (with_reducible refine Up.setCell ?_ ?_ _) | (with_reducible refine Up.call ?_ (by with_reducible assumption)) | go_size))⟩
  subst h3
  by_cases h4 : dl = 0
  rotate_left
  · obtain rfl : r = false := by rw [← HR.out]; simp [bareC, h4]
    have d4 : ((dl : Int) == 0) = false := by simp [h4]
    clear h4
    go_enter Tryd.func38, Tryd.ntmps38
    go_wp2
    go_ret
    exact ⟨rfl, by (repeat' (first | (with_reducible exact Up.refl _) | (with_reducible assumption) | (with_reducible refine Up.alloc ?_ _) | (with_reducible refine Up.drew ?_) | (with_reducible refine Up.drewN ?_ _) | (with_reducible refine Up.setCell ?_ ?_ _) | (with_reducible refine Up.call ?_ (by with_reducible assumption)) | go_size))⟩
  subst h4
  obtain rfl : r = true := by rw [← HR.out]; simp [bareC]
  go_enter Tryd.func38, Tryd.ntmps38
  go_wp2
  go_ret
  exact ⟨rfl, by (repeat' (first | (with_reducible exact Up.refl _) | (with_reducible assumption) | (with_reducible refine Up.alloc ?_ _) | (with_reducible refine Up.drew ?_) | (with_reducible refine Up.drewN ?_ _) | (with_reducible refine Up.setCell ?_ ?_ _) | (with_reducible refine Up.call ?_ (by with_reducible assumption)) | go_size))⟩

set_option maxRecDepth 8000 in
theorem bare_TFFFF (k n : Int) (t : List UInt8) (ka : Option Addr) (kl kc : Nat) (la : Option Addr) (ll lc : Nat) (da : Option Addr) (dl dc : Nat) (r : Bool) (hr : bareC n t kl ll dl true false false false false = r) (w : World) :
    Calls Tryd.prog 38 #[.agg #[.int .i64 k, .int .i64 n, .string ⟨t.toArray⟩, .slice ka kl kc, .slice la ll lc, .slice da dl dc], .bool true, .bool false, .bool false, .bool false, .bool false] w fun e w' => e = .returned (.bool r) ∧ Up w w' := by
  have HR := Lib.hid hr
  clear hr
  by_cases h1 : t = []
  rotate_left
  · obtain rfl : r = false := by rw [← HR.out]; simp [bareC, h1]
    have d1 : t.isEmpty = false := by simpa using h1
    go_enter Tryd.func38, Tryd.ntmps38
    go_wp2
    go_ret
    exact ⟨rfl, by (repeat' (first | (with_reducible exact Up.refl _) | (with_reducible assumption) | (with_reducible refine Up.alloc ?_ _) | (with_reducible refine Up.drew ?_) | (with_reducible refine Up.drewN ?_ _) | (with_reducible refine Up.setCell ?_ ?_ _) | (with_reducible refine Up.call ?_ (by with_reducible assumption)) | go_size))⟩
  subst h1
  by_cases h2 : kl = 0
  rotate_left
  · obtain rfl : r = false := by rw [← HR.out]; simp [bareC, h2]
    have d2 : ((kl : Int) == 0) = false := by simp [h2]
    clear h2
    go_enter Tryd.func38, Tryd.ntmps38
    go_wp2
    go_ret
    exact ⟨rfl, by (repeat' (first | (with_reducible exact Up.refl _) | (with_reducible assumption) | (with_reducible refine Up.alloc ?_ _) | (with_reducible refine Up.drew ?_) | (with_reducible refine Up.drewN ?_ _) | (with_reducible refine Up.setCell ?_ ?_ _) | (with_reducible refine Up.call ?_ (by with_reducible assumption)) | go_size))⟩
  subst h2
  by_cases h3 : ll = 0
  rotate_left
  · obtain rfl : r = false := by rw [← HR.out]; simp [bareC, h3]
    have d3 : ((ll : Int) == 0) = false := by simp [h3]
    clear h3
    go_enter Tryd.func38, Tryd.ntmps38
    go_wp2
    go_ret
    exact ⟨rfl, by (repeat' (first | (with_reducible exact Up.refl _) | (with_reducible assumption) | (with_reducible refine Up.alloc ?_ _) | (with_reducible refine Up.drew ?_) | (with_reducible refine Up.drewN ?_ _) | (with_reducible refine Up.setCell ?_ ?_ _) | (with_reducible refine Up.call ?_ (by with_reducible assumption)) | go_size))⟩
  subst h3
  by_cases h4 : dl = 0
  rotate_left
  · obtain rfl : r = false := by rw [← HR.out]; simp [bareC, h4]
    have d4 : ((dl : Int) == 0) = false := by simp [h4]
    clear h4
    go_enter Tryd.func38, Tryd.ntmps38
    go_wp2
    go_ret
    exact ⟨rfl, by (repeat' (first | (with_reducible exact Up.refl _) | (with_reducible assumption) | (with_reducible refine Up.alloc ?_ _) | (with_reducible refine Up.drew ?_) | (with_reducible refine Up.drewN ?_ _) | (with_reducible refine Up.setCell ?_ ?_ _) | (with_reducible refine Up.call ?_ (by with_reducible assumption)) | go_size))⟩
  subst h4
  obtain rfl : r = true := by rw [← HR.out]; simp [bareC]
  go_enter Tryd.func38, Tryd.ntmps38
  go_wp2
  go_ret
  exact ⟨rfl, by (repeat' (first | (with_reducible exact Up.refl _) | (with_reducible assumption) | (with_reducible refine Up.alloc ?_ _) | (with_reducible refine Up.drew ?_) | (with_reducible refine Up.drewN ?_ _) | (with_reducible refine Up.setCell ?_ ?_ _) | (with_reducible refine Up.call ?_ (by with_reducible assumption)) | go_size))⟩

set_option maxRecDepth 8000 in
theorem bare_FTFFF (k n : Int) (t : List UInt8) (ka : Option Addr) (kl kc : Nat) (la : Option Addr) (ll lc : Nat) (da : Option Addr) (dl dc : Nat) (r : Bool) (hr : bareC n t kl ll dl false true false false false = r) (w : World) :
    Calls Tryd.prog 38 #[.agg #[.int .i64 k, .int .i64 n, .string ⟨t.toArray⟩, .slice ka kl kc, .slice la ll lc, .slice da dl dc], .bool false, .bool true, .bool false, .bool false, .bool false] w fun e w' => e = .returned (.bool r) ∧ Up w w' := by
  have HR := Lib.hid hr
  clear hr
  by_cases h0 : n = 0
  rotate_left
  · obtain rfl : r = false := by rw [← HR.out]; simp [bareC, h0]
    have d0 : ((n : Int) == 0) = false := by simp [h0]
    clear h0
    go_enter Tryd.func38, Tryd.ntmps38
    go_wp2
    go_ret
    exact ⟨rfl, by (repeat' (first | (with_reducible exact Up.refl _) | (with_reducible assumption) | (with_reducible refine Up.alloc ?_ _) | (with_reducible refine Up.drew ?_) | (with_reducible refine Up.drewN ?_ _) | (with_reducible refine Up.setCell ?_ ?_ _) | (with_reducible refine Up.call ?_ (by with_reducible assumption)) | go_size))⟩
  subst h0
  by_cases h2 : kl = 0
  rotate_left
  · obtain rfl : r = false := by rw [← HR.out]; simp [bareC, h2]
    have d2 : ((kl : Int) == 0) = false := by simp [h2]
    clear h2
    go_enter Tryd.func38, Tryd.ntmps38
    go_wp2
    go_ret
    exact ⟨rfl, by (repeat' (first | (with_reducible exact Up.refl _) | (with_reducible assumption) | (with_reducible refine Up.alloc ?_ _) | (with_reducible refine Up.drew ?_) | (with_reducible refine Up.drewN ?_ _) | (with_reducible refine Up.setCell ?_ ?_ _) | (with_reducible refine Up.call ?_ (by with_reducible assumption)) | go_size))⟩
  subst h2
  by_cases h3 : ll = 0
  rotate_left
  · obtain rfl : r = false := by rw [← HR.out]; simp [bareC, h3]
    have d3 : ((ll : Int) == 0) = false := by simp [h3]
    clear h3
    go_enter Tryd.func38, Tryd.ntmps38
    go_wp2
    go_ret
    exact ⟨rfl, by (repeat' (first | (with_reducible exact Up.refl _) | (with_reducible assumption) | (with_reducible refine Up.alloc ?_ _) | (with_reducible refine Up.drew ?_) | (with_reducible refine Up.drewN ?_ _) | (with_reducible refine Up.setCell ?_ ?_ _) | (with_reducible refine Up.call ?_ (by with_reducible assumption)) | go_size))⟩
  subst h3
  by_cases h4 : dl = 0
  rotate_left
  · obtain rfl : r = false := by rw [← HR.out]; simp [bareC, h4]
    have d4 : ((dl : Int) == 0) = false := by simp [h4]
    clear h4
    go_enter Tryd.func38, Tryd.ntmps38
    go_wp2
    go_ret
    exact ⟨rfl, by (repeat' (first | (with_reducible exact Up.refl _) | (with_reducible assumption) | (with_reducible refine Up.alloc ?_ _) | (with_reducible refine Up.drew ?_) | (with_reducible refine Up.drewN ?_ _) | (with_reducible refine Up.setCell ?_ ?_ _) | (with_reducible refine Up.call ?_ (by with_reducible assumption)) | go_size))⟩
  subst h4
  obtain rfl : r = true := by rw [← HR.out]; simp [bareC]
  go_enter Tryd.func38, Tryd.ntmps38
  go_wp2
  go_ret
  exact ⟨rfl, by (repeat' (first | (with_reducible exact Up.refl _) | (with_reducible assumption) | (with_reducible refine Up.alloc ?_ _) | (with_reducible refine Up.drew ?_) | (with_reducible refine Up.drewN ?_ _) | (with_reducible refine Up.setCell ?_ ?_ _) | (with_reducible refine Up.call ?_ (by with_reducible assumption)) | go_size))⟩

set_option maxRecDepth 8000 in
theorem bare_FFFTF (k n : Int) (t : List UInt8) (ka : Option Addr) (kl kc : Nat) (la : Option Addr) (ll lc : Nat) (da : Option Addr) (dl dc : Nat) (r : Bool) (hr : bareC n t kl ll dl false false false true false = r) (w : World) :
    Calls Tryd.prog 38 #[.agg #[.int .i64 k, .int .i64 n, .string ⟨t.toArray⟩, .slice ka kl kc, .slice la ll lc, .slice da dl dc], .bool false, .bool false, .bool false, .bool true, .bool false] w fun e w' => e = .returned (.bool r) ∧ Up w w' := by
  have HR := Lib.hid hr
  clear hr
  by_cases h0 : n = 0
  rotate_left
  · obtain rfl : r = false := by rw [← HR.out]; simp [bareC, h0]
    have d0 : ((n : Int) == 0) = false := by simp [h0]
    clear h0
    go_enter Tryd.func38, Tryd.ntmps38
    go_wp2
    go_ret
    exact ⟨rfl, by (repeat' (first | (with_reducible exact Up.refl _) | (with_reducible assumption) | (with_reducible refine Up.alloc ?_ _) | (with_reducible refine Up.drew ?_) | (with_reducible refine Up.drewN ?_ _) | (with_reducible refine Up.setCell ?_ ?_ _) | (with_reducible refine Up.call ?_ (by with_reducible assumption)) | go_size))⟩
  subst h0
  by_cases h1 : t = []
  rotate_left
  · obtain rfl : r = false := by rw [← HR.out]; simp [bareC, h1]
    have d1 : t.isEmpty = false := by simpa using h1
    go_enter Tryd.func38, Tryd.ntmps38
    go_wp2
    go_ret
    exact ⟨rfl, by (repeat' (first | (with_reducible exact Up.refl _) | (with_reducible assumption) | (with_reducible refine Up.alloc ?_ _) | (with_reducible refine Up.drew ?_) | (with_reducible refine Up.drewN ?_ _) | (with_reducible refine Up.setCell ?_ ?_ _) | (with_reducible refine Up.call ?_ (by with_reducible assumption)) | go_size))⟩
  subst h1
  by_cases h2 : kl = 0
  rotate_left
  · obtain rfl : r = false := by rw [← HR.out]; simp [bareC, h2]
    have d2 : ((kl : Int) == 0) = false := by simp [h2]
    clear h2
    go_enter Tryd.func38, Tryd.ntmps38
    go_wp2
    go_ret
    exact ⟨rfl, by (repeat' (first | (with_reducible exact Up.refl _) | (with_reducible assumption) | (with_reducible refine Up.alloc ?_ _) | (with_reducible refine Up.drew ?_) | (with_reducible refine Up.drewN ?_ _) | (with_reducible refine Up.setCell ?_ ?_ _) | (with_reducible refine Up.call ?_ (by with_reducible assumption)) | go_size))⟩
  subst h2
  by_cases h4 : dl = 0
  rotate_left
  · obtain rfl : r = false := by rw [← HR.out]; simp [bareC, h4]
    have d4 : ((dl : Int) == 0) = false := by simp [h4]
    clear h4
    go_enter Tryd.func38, Tryd.ntmps38
    go_wp2
    go_ret
    exact ⟨rfl, by (repeat' (first | (with_reducible exact Up.refl _) | (with_reducible assumption) | (with_reducible refine Up.alloc ?_ _) | (with_reducible refine Up.drew ?_) | (with_reducible refine Up.drewN ?_ _) | (with_reducible refine Up.setCell ?_ ?_ _) | (with_reducible refine Up.call ?_ (by with_reducible assumption)) | go_size))⟩
  subst h4
  obtain rfl : r = true := by rw [← HR.out]; simp [bareC]
  go_enter Tryd.func38, Tryd.ntmps38
  go_wp2
  go_ret
  exact ⟨rfl, by (repeat' (first | (with_reducible exact Up.refl _) | (with_reducible assumption) | (with_reducible refine Up.alloc ?_ _) | (with_reducible refine Up.drew ?_) | (with_reducible refine Up.drewN ?_ _) | (with_reducible refine Up.setCell ?_ ?_ _) | (with_reducible refine Up.call ?_ (by with_reducible assumption)) | go_size))⟩

set_option maxRecDepth 8000 in
theorem bare_FFTTF (k n : Int) (t : List UInt8) (ka : Option Addr) (kl kc : Nat) (la : Option Addr) (ll lc : Nat) (da : Option Addr) (dl dc : Nat) (r : Bool) (hr : bareC n t kl ll dl false false true true false = r) (w : World) :
    Calls Tryd.prog 38 #[.agg #[.int .i64 k, .int .i64 n, .string ⟨t.toArray⟩, .slice ka kl kc, .slice la ll lc, .slice da dl dc], .bool false, .bool false, .bool true, .bool true, .bool false] w fun e w' => e = .returned (.bool r) ∧ Up w w' := by
  have HR := Lib.hid hr
  clear hr
  by_cases h0 : n = 0
  rotate_left
  · obtain rfl : r = false := by rw [← HR.out]; simp [bareC, h0]
    have d0 : ((n : Int) == 0) = false := by simp [h0]
    clear h0
    go_enter Tryd.func38, Tryd.ntmps38
    go_wp2
    go_ret
    exact ⟨rfl, by (repeat' (first | (with_reducible exact Up.refl _) | (with_reducible assumption) | (with_reducible refine Up.alloc ?_ _) | (with_reducible refine Up.drew ?_) | (with_reducible refine Up.drewN ?_ _) | (with_reducible refine Up.setCell ?_ ?_ _) | (with_reducible refine Up.call ?_ (by with_reducible assumption)) | go_size))⟩
  subst h0
  by_cases h1 : t = []
  rotate_left
  · obtain rfl : r = false := by rw [← HR.out]; simp [bareC, h1]
    have d1 : t.isEmpty = false := by simpa using h1
    go_enter Tryd.func38, Tryd.ntmps38
    go_wp2
    go_ret
    exact ⟨rfl, by (repeat' (first | (with_reducible exact Up.refl _) | (with_reducible assumption) | (with_reducible refine Up.alloc ?_ _) | (with_reducible refine Up.drew ?_) | (with_reducible refine Up.drewN ?_ _) | (with_reducible refine Up.setCell ?_ ?_ _) | (with_reducible refine Up.call ?_ (by with_reducible assumption)) | go_size))⟩
  subst h1
  by_cases h4 : dl = 0
  rotate_left
  · obtain rfl : r = false := by rw [← HR.out]; simp [bareC, h4]
    have d4 : ((dl : Int) == 0) = false := by simp [h4]
    clear h4
    go_enter Tryd.func38, Tryd.ntmps38
    go_wp2
    go_ret
    exact ⟨rfl, by (repeat' (first | (with_reducible exact Up.refl _) | (with_reducible assumption) | (with_reducible refine Up.alloc ?_ _) | (with_reducible refine Up.drew ?_) | (with_reducible refine Up.drewN ?_ _) | (with_reducible refine Up.setCell ?_ ?_ _) | (with_reducible refine Up.call ?_ (by with_reducible assumption)) | go_size))⟩
  subst h4
  obtain rfl : r = true := by rw [← HR.out]; simp [bareC]
  go_enter Tryd.func38, Tryd.ntmps38
  go_wp2
  go_ret
  exact ⟨rfl, by (repeat' (first | (with_reducible exact Up.refl _) | (with_reducible assumption) | (with_reducible refine Up.alloc ?_ _) | (with_reducible refine Up.drew ?_) | (with_reducible refine Up.drewN ?_ _) | (with_reducible refine Up.setCell ?_ ?_ _) | (with_reducible refine Up.call ?_ (by with_reducible assumption)) | go_size))⟩

set_option maxRecDepth 8000 in
theorem bare_FFTTT (k n : Int) (t : List UInt8) (ka : Option Addr) (kl kc : Nat) (la : Option Addr) (ll lc : Nat) (da : Option Addr) (dl dc : Nat) (r : Bool) (hr : bareC n t kl ll dl false false true true true = r) (w : World) :
    Calls Tryd.prog 38 #[.agg #[.int .i64 k, .int .i64 n, .string ⟨t.toArray⟩, .slice ka kl kc, .slice la ll lc, .slice da dl dc], .bool false, .bool false, .bool true, .bool true, .bool true] w fun e w' => e = .returned (.bool r) ∧ Up w w' := by
  have HR := Lib.hid hr
  clear hr
  by_cases h0 : n = 0
  rotate_left
  · obtain rfl : r = false := by rw [← HR.out]; simp [bareC, h0]
    have d0 : ((n : Int) == 0) = false := by simp [h0]
    clear h0
    go_enter Tryd.func38, Tryd.ntmps38
    go_wp2
    go_ret
    exact ⟨rfl, by (repeat' (first | (with_reducible exact Up.refl _) | (with_reducible assumption) | (with_reducible refine Up.alloc ?_ _) | (with_reducible refine Up.drew ?_) | (with_reducible refine Up.drewN ?_ _) | (with_reducible refine Up.setCell ?_ ?_ _) | (with_reducible refine Up.call ?_ (by with_reducible assumption)) | go_size))⟩
  subst h0
  by_cases h1 : t = []
  rotate_left
  · obtain rfl : r = false := by rw [← HR.out]; simp [bareC, h1]
    have d1 : t.isEmpty = false := by simpa using h1
    go_enter Tryd.func38, Tryd.ntmps38
    go_wp2
    go_ret
    exact ⟨rfl, by (repeat' (first | (with_reducible exact Up.refl _) | (with_reducible assumption) | (with_reducible refine Up.alloc ?_ _) | (with_reducible refine Up.drew ?_) | (with_reducible refine Up.drewN ?_ _) | (with_reducible refine Up.setCell ?_ ?_ _) | (with_reducible refine Up.call ?_ (by with_reducible assumption)) | go_size))⟩
  subst h1
  obtain rfl : r = true := by rw [← HR.out]; simp [bareC]
  go_enter Tryd.func38, Tryd.ntmps38
  go_wp2
  go_ret
  exact ⟨rfl, by (repeat' (first | (with_reducible exact Up.refl _) | (with_reducible assumption) | (with_reducible refine Up.alloc ?_ _) | (with_reducible refine Up.drew ?_) | (with_reducible refine Up.drewN ?_ _) | (with_reducible refine Up.setCell ?_ ?_ _) | (with_reducible refine Up.call ?_ (by with_reducible assumption)) | go_size))⟩

theorem contains_calls (ks : List (List UInt8)) (a : Option Addr) (kl kc j c : Nat) (x : List UInt8) (w : World) (h : Sl 1 kcells w a kl kc ks) (hj : j ≤ kl) :
    Calls Tryd.prog 43 #[.slice a j c, .string ⟨x.toArray⟩] w fun e w' => e = .returned (.bool ((ks.take j).contains x)) ∧ w' = w := by
  by_cases h0 : j = 0
  · subst h0
    refine (Tryd.slices_Contains_string_empty a c ⟨x.toArray⟩ w).mono ?_
    rintro e w' ⟨rfl, rfl⟩
    exact ⟨by simp, rfl⟩
  · obtain ⟨b, o, rfl, hb, hc⟩ := sl_some h (by omega)
    have hl := h.2.2.1
    have hm := h.2.1
    have hm1 := h.1
    have e : (⟨x.toArray⟩ : ByteArray) ∈ (ks.map (fun s => (⟨s.toArray⟩ : ByteArray))).take j ↔ x ∈ ks.take j := by
      rw [← List.map_take, List.mem_map]
      exact ⟨fun ⟨a, ha, he⟩ => by injection he with he; have e2 : a = x := by simpa using congrArg Array.toList he
                                   rw [← e2]; exact ha, fun h => ⟨x, h, rfl⟩⟩
    refine (Tryd.slices_Contains_string b o j c (ks.map (fun s => (⟨s.toArray⟩ : ByteArray))) ⟨x.toArray⟩ w (by simp; omega) (by omega) (fun i hi => ?_)).mono ?_
    · simp only [List.length_map] at hi
      have := hc i ks[i] 0 _ (List.getElem?_eq_getElem hi) rfl
      rw [Nat.mul_one, Nat.add_zero] at this
      rw [this, List.getD_eq_getElem?_getD, List.getElem?_map, List.getElem?_eq_getElem hi]
      rfl
    · rintro e2 w' ⟨rfl, rfl⟩
      refine ⟨?_, rfl⟩
      congr 2
      rw [Bool.eq_iff_iff, Lib.containsS_iff, List.contains_iff_mem]
      exact e
/-- all keys are names, and no two the same -/
def distOk (ks : List (List UInt8)) (i : Nat) : Bool := namedB (ks.getD i []) && !(ks.take i).contains (ks.getD i [])
def distR (ks : List (List UInt8)) : Bool := (List.range ks.length).all (distOk ks)
theorem range_step {p : Nat → Bool} {k : Nat} (h : (List.range k).all p = true) (hc : p k = true) : (List.range (k + 1)).all p = true := by
  rw [List.range_succ, List.all_append, h]
  simp [hc]
theorem range_miss {p : Nat → Bool} {k n : Nat} (hk : k < n) (hc : p k = false) : (List.range n).all p = false := by
  rw [List.all_eq_false]
  exact ⟨k, List.mem_range.2 hk, by simp [hc]⟩
set_option maxRecDepth 8000 in
set_option maxHeartbeats 2000000 in
theorem distinct_calls (ks : List (List UInt8)) (a : Option Addr) (kl kc : Nat) (r : Bool) (hr : distR ks = r) (w : World) (h : Sl 1 kcells w a kl kc ks) :
    Calls Tryd.prog 42 #[.slice a kl kc] w fun e w' => e = .returned (.bool r) ∧ Up w w' := by
  have HR := Lib.hid hr
  have H := Lib.hid h
  have HN := Lib.hid h.2.2.1
  have h1 := h.1
  have h2 := h.2.1
  clear hr h
  go_enter Tryd.func42, Tryd.ntmps42
  go_wp2
  go_loopw [7] (fun i wr => ∃ j : Nat, j ≤ kl ∧ i = .int .i64 j ∧ Hid ((List.range j).all (distOk ks) = true) ∧ Up w wr) (fun i _ => kl - (intOf i).toNat)
  case atStart => exact ⟨0, Nat.zero_le _, rfl, Lib.hid rfl, Up.refl _⟩
  case round =>
    obtain ⟨j, hj, rfl, HA, hup⟩ := hrel
    have HU := Lib.hid hup
    clear hup
    by_cases hlt : j < kl
    · obtain ⟨b, o, rfl, hb, hc⟩ := sl_some H.out (by omega)
      obtain ⟨s, hs⟩ : ∃ s, ks[j]? = some s := ⟨_, List.getElem?_eq_getElem (by have := HN.out; omega)⟩
      have hg : ks.getD j [] = s := by rw [List.getD_eq_getElem?_getD, hs]; rfl
      have q0 : wr.cell? ⟨b, o + j, none⟩ = some (.string ⟨s.toArray⟩) := by have := (HU.out.cells.1 b _ hb).trans (hc j s 0 _ hs rfl); simpa using this
      have lb : b < wr.heap.size := Nat.lt_of_lt_of_le hb HU.out.size
      have HG := Lib.hid hg
      have HJ := Lib.hid (show j < ks.length by have := HN.out; omega)
      clear hc hs hg
      by_cases hn : namedB s = true
      · have HM := Lib.hid hn
        obtain ⟨x, hx⟩ : ∃ x, (ks.take j).contains s = x := ⟨_, rfl⟩
        have HX := Lib.hid hx
        clear hn hx
        cases x
        · go_wp2_with (first
            | (go_at_call 40; ((with_reducible refine (named_calls s true HM.out _).mono ?_); rintro e w2 ⟨rfl, rfl⟩))
            | (go_at_call 43; ((with_reducible refine (contains_calls ks _ kl kc j _ s _ (sl_up H.out (by first | exact HU.out | exact Up.drew HU.out)) (by omega)).mono ?_); rw [HX.out]; rintro e w2 ⟨rfl, hw⟩; obtain rfl := hw.symm; clear hw)))
          go_roundw
          case rel => exact ⟨j + 1, by omega, by go_num, Lib.hid (range_step HA.out (by simp only [distOk, HG.out, HM.out, HX.out, Bool.not_false, Bool.and_self])), HU.out⟩
          case measure => simp [intOf]; omega
        · obtain rfl : r = false := by rw [← HR.out]; exact range_miss HJ.out (by simp only [distOk, HG.out, HX.out, Bool.not_true, Bool.and_false])
          go_wp2_with (first
            | (go_at_call 40; ((with_reducible refine (named_calls s true HM.out _).mono ?_); rintro e w2 ⟨rfl, rfl⟩))
            | (go_at_call 43; ((with_reducible refine (contains_calls ks _ kl kc j _ s _ (sl_up H.out (by first | exact HU.out | exact Up.drew HU.out)) (by omega)).mono ?_); rw [HX.out]; rintro e w2 ⟨rfl, hw⟩; obtain rfl := hw.symm; clear hw)))
          go_ret
          exact ⟨rfl, HU.out⟩
      · have HM := Lib.hid (Bool.eq_false_iff.2 hn)
        clear hn
        obtain rfl : r = false := by rw [← HR.out]; exact range_miss HJ.out (by simp only [distOk, HG.out, HM.out, Bool.false_and])
        go_wp2_with (go_at_call 40; ((with_reducible refine (named_calls s false HM.out _).mono ?_); rintro e w2 ⟨rfl, rfl⟩))
        go_ret
        exact ⟨rfl, HU.out⟩
    · have hcast : decide (j < kl) = false := decide_eq_false hlt
      obtain rfl : kl = j := by omega
      obtain rfl : r = true := by rw [← HR.out]; unfold distR; rw [HN.out]; exact HA.out
      go_wp2
      go_ret
      exact ⟨rfl, HU.out⟩

end Go.Proofs.YtaafelkdhahaoaaDoor.Pob
