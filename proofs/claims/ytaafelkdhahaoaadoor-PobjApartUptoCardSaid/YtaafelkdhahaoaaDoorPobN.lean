/- The reference's Delimiter of any byte. No condition. -/
import Derived.Test.YtaafelkdhahaoaaDoorPobP
namespace Go.Proofs.YtaafelkdhahaoaaDoor.Pob
open Go.ChangeShapes Go.WideShapes Go.RowKit Go.Shelf
set_option linter.unusedVariables false
set_option linter.unusedSimpArgs false

/-- a delimiter -/
def delimR (c : UInt8) : Bool := [40, 41, 60, 62, 91, 93, 123, 125, 47, 37].contains c
set_option maxRecDepth 8000 in
set_option maxHeartbeats 2000000 in
theorem delimG_calls (c : UInt8) (r : Bool) (hr : delimR c = r) (w : World) : Calls Tryd.prog 26 #[.int .u8 (c.toNat : Int)] w fun e w' => e = .returned (.bool r) ∧ w = w' := by
  have HR := Lib.hid hr
  clear hr
  by_cases c40 : c = 40
  · subst c40
    obtain rfl : r = true := by rw [← HR.out]; rfl
    show Calls _ _ #[.int .u8 40] _ _
    go_enter Tryd.func26, Tryd.ntmps26
    go_wp2
    go_ret
    exact ⟨rfl, rfl⟩
  by_cases c41 : c = 41
  · subst c41
    obtain rfl : r = true := by rw [← HR.out]; rfl
    show Calls _ _ #[.int .u8 41] _ _
    go_enter Tryd.func26, Tryd.ntmps26
    go_wp2
    go_ret
    exact ⟨rfl, rfl⟩
  by_cases c60 : c = 60
  · subst c60
    obtain rfl : r = true := by rw [← HR.out]; rfl
    show Calls _ _ #[.int .u8 60] _ _
    go_enter Tryd.func26, Tryd.ntmps26
    go_wp2
    go_ret
    exact ⟨rfl, rfl⟩
  by_cases c62 : c = 62
  · subst c62
    obtain rfl : r = true := by rw [← HR.out]; rfl
    show Calls _ _ #[.int .u8 62] _ _
    go_enter Tryd.func26, Tryd.ntmps26
    go_wp2
    go_ret
    exact ⟨rfl, rfl⟩
  by_cases c91 : c = 91
  · subst c91
    obtain rfl : r = true := by rw [← HR.out]; rfl
    show Calls _ _ #[.int .u8 91] _ _
    go_enter Tryd.func26, Tryd.ntmps26
    go_wp2
    go_ret
    exact ⟨rfl, rfl⟩
  by_cases c93 : c = 93
  · subst c93
    obtain rfl : r = true := by rw [← HR.out]; rfl
    show Calls _ _ #[.int .u8 93] _ _
    go_enter Tryd.func26, Tryd.ntmps26
    go_wp2
    go_ret
    exact ⟨rfl, rfl⟩
  by_cases c123 : c = 123
  · subst c123
    obtain rfl : r = true := by rw [← HR.out]; rfl
    show Calls _ _ #[.int .u8 123] _ _
    go_enter Tryd.func26, Tryd.ntmps26
    go_wp2
    go_ret
    exact ⟨rfl, rfl⟩
  by_cases c125 : c = 125
  · subst c125
    obtain rfl : r = true := by rw [← HR.out]; rfl
    show Calls _ _ #[.int .u8 125] _ _
    go_enter Tryd.func26, Tryd.ntmps26
    go_wp2
    go_ret
    exact ⟨rfl, rfl⟩
  by_cases c47 : c = 47
  · subst c47
    obtain rfl : r = true := by rw [← HR.out]; rfl
    show Calls _ _ #[.int .u8 47] _ _
    go_enter Tryd.func26, Tryd.ntmps26
    go_wp2
    go_ret
    exact ⟨rfl, rfl⟩
  by_cases c37 : c = 37
  · subst c37
    obtain rfl : r = true := by rw [← HR.out]; rfl
    show Calls _ _ #[.int .u8 37] _ _
    go_enter Tryd.func26, Tryd.ntmps26
    go_wp2
    go_ret
    exact ⟨rfl, rfl⟩
  obtain rfl : r = false := by rw [← HR.out]; simp [delimR, c40, c41, c60, c62, c91, c93, c123, c125, c47, c37]
  have c40 := ne_of (k := 40) (z := 40) c40 (by decide) rfl
  have c41 := ne_of (k := 41) (z := 41) c41 (by decide) rfl
  have c60 := ne_of (k := 60) (z := 60) c60 (by decide) rfl
  have c62 := ne_of (k := 62) (z := 62) c62 (by decide) rfl
  have c91 := ne_of (k := 91) (z := 91) c91 (by decide) rfl
  have c93 := ne_of (k := 93) (z := 93) c93 (by decide) rfl
  have c123 := ne_of (k := 123) (z := 123) c123 (by decide) rfl
  have c125 := ne_of (k := 125) (z := 125) c125 (by decide) rfl
  have c47 := ne_of (k := 47) (z := 47) c47 (by decide) rfl
  have c37 := ne_of (k := 37) (z := 37) c37 (by decide) rfl
  generalize (c.toNat : Int) = z at c40 c41 c60 c62 c91 c93 c123 c125 c47 c37 ⊢
  go_enter Tryd.func26, Tryd.ntmps26
  go_wp2
  go_ret
  exact ⟨rfl, rfl⟩
/-- which bytes the reference quotes -/
theorem quoted_ref (c : UInt8) : quoted c = (decide (c.toNat < 33) || decide (126 < c.toNat) || (c == 35) || delimR c) :=
  by
    have := all256 (fun c => quoted c == (decide (c.toNat < 33) || decide (126 < c.toNat) || (c == 35) || delimR c)) (by decide +kernel) c
    simpa using this

end Go.Proofs.YtaafelkdhahaoaaDoor.Pob
