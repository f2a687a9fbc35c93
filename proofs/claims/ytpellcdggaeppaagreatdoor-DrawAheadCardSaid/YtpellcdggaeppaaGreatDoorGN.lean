/- The reference's Delimiter of any byte. No condition. The reference's hexa. No condition. The reference's Name. Its condition: a length. strconv.Itoa and the digits of package dec are the same. Its condition: the library's table as laid. strconv.Itoa in the world of package pobj. Its condition: the library's table as laid. -/
import Derived.Test.YtpellcdggaeppaaGreatDoorGW
section
namespace Go.Proofs.YtpellcdggaeppaaGreatDoor.Pob
open Go.ChangeShapes Go.WideShapes Go.RowKit Go.Shelf
set_option linter.unusedVariables false
set_option linter.unusedSimpArgs false

/-- a delimiter -/
def delimR (c : UInt8) : Bool := [40, 41, 60, 62, 91, 93, 123, 125, 47, 37].contains c
set_option maxRecDepth 8000 in
set_option maxHeartbeats 2000000 in
theorem delimG_calls (c : UInt8) (r : Bool) (hr : delimR c = r) (w : World) : Calls Tryz.prog 59 #[.int .u8 (c.toNat : Int)] w fun e w' => e = .returned (.bool r) ∧ w = w' := by
  have HR := Lib.hid hr
  clear hr
  by_cases c40 : c = 40
  · subst c40
    obtain rfl : r = true := by rw [← HR.out]; rfl
    show Calls _ _ #[.int .u8 40] _ _
    go_enter Tryz.func59, Tryz.ntmps59
    go_wp2
    go_ret
    exact ⟨rfl, rfl⟩
  by_cases c41 : c = 41
  · subst c41
    obtain rfl : r = true := by rw [← HR.out]; rfl
    show Calls _ _ #[.int .u8 41] _ _
    go_enter Tryz.func59, Tryz.ntmps59
    go_wp2
    go_ret
    exact ⟨rfl, rfl⟩
  by_cases c60 : c = 60
  · subst c60
    obtain rfl : r = true := by rw [← HR.out]; rfl
    show Calls _ _ #[.int .u8 60] _ _
    go_enter Tryz.func59, Tryz.ntmps59
    go_wp2
    go_ret
    exact ⟨rfl, rfl⟩
  by_cases c62 : c = 62
  · subst c62
    obtain rfl : r = true := by rw [← HR.out]; rfl
    show Calls _ _ #[.int .u8 62] _ _
    go_enter Tryz.func59, Tryz.ntmps59
    go_wp2
    go_ret
    exact ⟨rfl, rfl⟩
  by_cases c91 : c = 91
  · subst c91
    obtain rfl : r = true := by rw [← HR.out]; rfl
    show Calls _ _ #[.int .u8 91] _ _
    go_enter Tryz.func59, Tryz.ntmps59
    go_wp2
    go_ret
    exact ⟨rfl, rfl⟩
  by_cases c93 : c = 93
  · subst c93
    obtain rfl : r = true := by rw [← HR.out]; rfl
    show Calls _ _ #[.int .u8 93] _ _
    go_enter Tryz.func59, Tryz.ntmps59
    go_wp2
    go_ret
    exact ⟨rfl, rfl⟩
  by_cases c123 : c = 123
  · subst c123
    obtain rfl : r = true := by rw [← HR.out]; rfl
    show Calls _ _ #[.int .u8 123] _ _
    go_enter Tryz.func59, Tryz.ntmps59
    go_wp2
    go_ret
    exact ⟨rfl, rfl⟩
  by_cases c125 : c = 125
  · subst c125
    obtain rfl : r = true := by rw [← HR.out]; rfl
    show Calls _ _ #[.int .u8 125] _ _
    go_enter Tryz.func59, Tryz.ntmps59
    go_wp2
    go_ret
    exact ⟨rfl, rfl⟩
  by_cases c47 : c = 47
  · subst c47
    obtain rfl : r = true := by rw [← HR.out]; rfl
    show Calls _ _ #[.int .u8 47] _ _
    go_enter Tryz.func59, Tryz.ntmps59
    go_wp2
    go_ret
    exact ⟨rfl, rfl⟩
  by_cases c37 : c = 37
  · subst c37
    obtain rfl : r = true := by rw [← HR.out]; rfl
    show Calls _ _ #[.int .u8 37] _ _
    go_enter Tryz.func59, Tryz.ntmps59
    go_wp2
    go_ret
    exact ⟨rfl, rfl⟩
  obtain rfl : r = false := by rw [← HR.out]; simp [delimR, c40, c41, c60, c62, c91, c93, c123, c125, c47, c37]
  have c40 := ne_of (k := 40) (z := 40) c40 (by decide) rfl
  have c41 := ne_of (k := 41) (z := 41) c41 (by decide) rfl
  have c60 := ne_of (k := 60) (z := 60) c60 (by decide) rfl
  have c62 := ne_of (k := 62) (z := 62) c62 (by decide) rfl
  have c91 := ne_of (k := 91) (z := 91) c91 (by decide) rfl
  have c93 := ne_of (k := 93) (z := 93) c93 (by decide) rfl
  have c123 := ne_of (k := 123) (z := 123) c123 (by decide) rfl
  have c125 := ne_of (k := 125) (z := 125) c125 (by decide) rfl
  have c47 := ne_of (k := 47) (z := 47) c47 (by decide) rfl
  have c37 := ne_of (k := 37) (z := 37) c37 (by decide) rfl
  generalize (c.toNat : Int) = z at c40 c41 c60 c62 c91 c93 c123 c125 c47 c37 ⊢
  go_enter Tryz.func59, Tryz.ntmps59
  go_wp2
  go_ret
  exact ⟨rfl, rfl⟩
/-- which bytes the reference quotes -/
theorem quoted_ref (c : UInt8) : quoted c = (decide (c.toNat < 33) || decide (126 < c.toNat) || (c == 35) || delimR c) :=
  by
    have := all256 (fun c => quoted c == (decide (c.toNat < 33) || decide (126 < c.toNat) || (c == 35) || delimR c)) (by decide +kernel) c
    simpa using this

end Go.Proofs.YtpellcdggaeppaaGreatDoor.Pob
end

section
namespace Go.Proofs.YtpellcdggaeppaaGreatDoor.Pob
open Go.ChangeShapes Go.WideShapes Go.RowKit Go.Shelf
set_option linter.unusedVariables false
set_option linter.unusedSimpArgs false

set_option maxRecDepth 100000 in
theorem hex_slice (i : Nat) (hi : i < 16) (W : World) : (Instr.slice 9 (.string ⟨#[48, 49, 50, 51, 52, 53, 54, 55, 56, 57, 97, 98, 99, 100, 101, 102]⟩) (some (.int .u8 (i : Int))) (some (.int .u8 ((i : Int) + 1))) none).run Tryz.prog W = .ok (.string ⟨#[hexc i]⟩) W := by
  have h : i = 0 ∨ i = 1 ∨ i = 2 ∨ i = 3 ∨ i = 4 ∨ i = 5 ∨ i = 6 ∨ i = 7 ∨ i = 8 ∨ i = 9 ∨ i = 10 ∨ i = 11 ∨ i = 12 ∨ i = 13 ∨ i = 14 ∨ i = 15 := by omega
  rcases h with rfl | rfl | rfl | rfl | rfl | rfl | rfl | rfl | rfl | rfl | rfl | rfl | rfl | rfl | rfl | rfl <;> rfl
end Go.Proofs.YtpellcdggaeppaaGreatDoor.Pob
end

section
namespace Go.Proofs.YtpellcdggaeppaaGreatDoor.Pob
open Go.ChangeShapes Go.WideShapes Go.RowKit Go.Shelf
set_option linter.unusedVariables false
set_option linter.unusedSimpArgs false


end Go.Proofs.YtpellcdggaeppaaGreatDoor.Pob
end

section
namespace Go.Proofs.YtpellcdggaeppaaGreatDoor.Pob
open Go.ChangeShapes Go.WideShapes Go.RowKit Go.Shelf
set_option linter.unusedVariables false
set_option linter.unusedSimpArgs false

theorem decL_eq (n : Nat) : Lib.decDigits n = decL n := by
  induction n using Nat.strongRecOn with
  | ind n ih =>
    by_cases h : n < 10
    · rw [decL_small h, Lib.decDigits, dif_pos h]
    · rw [decL_big h, Lib.decDigits, dif_neg h, ih (n / 10) (by omega)]
/-- a number's decimal numeral -/
def intL (n : Int) : List UInt8 := if n < 0 then 45 :: decL n.natAbs else decL n.natAbs
theorem itoa_eq (n : Int) : Lib.itoa n = intL n := by
  unfold Lib.itoa intL
  split
  · rw [decL_eq]
  · rw [decL_eq, show n.toNat = n.natAbs by omega]
theorem intL_len (n : Int) (h1 : -2147483648 ≤ n) (h2 : n ≤ 2147483647) : (intL n).length ≤ 101 := by
  unfold intL
  have := decL_len n.natAbs (by omega)
  split
  · rw [List.length_cons]; omega
  · omega
/-- the reference's Dec of any number that fits -/
theorem rdec_calls (n : Int) (h1 : -2147483648 ≤ n) (h2 : n ≤ 2147483647) (w : World) : Calls Tryz.prog 16 #[.int .i64 n] w fun e w' => e = .returned (.string ⟨(intL n).toArray⟩) ∧ Up w w' := by
  by_cases hn : n < 0
  · have e : n = -((n.natAbs : Nat) : Int) := by omega
    have e2 : intL n = 45 :: decL n.natAbs := by unfold intL; rw [if_pos hn]
    rw [e2]
    have := dec_neg n.natAbs (by omega) (by omega) w
    rw [← e] at this
    exact this
  · have e : n = ((n.natAbs : Nat) : Int) := by omega
    have e2 : intL n = decL n.natAbs := by unfold intL; rw [if_neg hn]
    rw [e2]
    have := dec_nat n.natAbs (by omega) w
    rw [← e] at this
    exact this
end Go.Proofs.YtpellcdggaeppaaGreatDoor.Pob
end

section
namespace Go.Proofs.YtpellcdggaeppaaGreatDoor.Pob
open Go.ChangeShapes Go.WideShapes Go.RowKit Go.Shelf
set_option linter.unusedVariables false
set_option linter.unusedSimpArgs false

/-- the library's table of powers, as laid -/
abbrev PTab (w : World) : Prop := Lib.TabIs Tryz.prog w "internal/strconv.uint64pow10" .u64 Lib.pow10Tab
theorem PTab.up {w w1 : World} (h : PTab w) (hu : Up w w1) : PTab w1 := by
  unfold PTab Lib.TabIs World.var? at h ⊢
  obtain ⟨g, hg, h2⟩ := Option.bind_eq_some_iff.1 h
  rw [hg, Option.bind_some]
  have hlt : g < w.heap.size := by
    cases hq : w.heap[g]? with
    | none => rw [hq] at h2; cases h2
    | some o => exact (Array.getElem?_eq_some_iff.1 hq).1
  rw [hu.block g hlt]
  exact h2
theorem itoa_calls (n : Int) (h1 : -2147483648 ≤ n) (h2 : n ≤ 2147483647) (w : World) (ht : PTab w) : Calls Tryz.prog 82 #[.int .i64 n] w fun e w' => e = .returned (.string ⟨(intL n).toArray⟩) ∧ Up w w' := by
  refine (Tryz.strconv_Itoa n (by omega) (by omega) w ht).mono ?_
  rintro e w' ⟨rfl, k, os, rfl⟩
  refine ⟨by rw [itoa_eq], ?_⟩
  refine ⟨rfl, rfl, rfl, ?_, fun i hi => ?_⟩
  · simp [Sort.grow, World.drewN]
  · simp only [Sort.grow, World.drewN]
    rw [Array.getElem?_append_left hi]
end Go.Proofs.YtpellcdggaeppaaGreatDoor.Pob
end
