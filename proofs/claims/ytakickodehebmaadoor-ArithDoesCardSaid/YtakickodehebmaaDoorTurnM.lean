/- Sines of whole degrees, and what turns, in plain integers. No program in sight; no condition. -/
import Derived.Test.YtakickodehebmaaDoorMatM2
namespace Go.Proofs.YtakickodehebmaaDoor.TurnM
open Go.Proofs.YtakickodehebmaaDoor.FixM
open Go.Proofs.YtakickodehebmaaDoor.MatM

def sines : List Nat := [0, 1144, 2287, 3430, 4572, 5712, 6850, 7987, 9121, 10252, 11380, 12505, 13626, 14742, 15855, 16962, 18064, 19161, 20252, 21336, 22415, 23486, 24550, 25607, 26656, 27697, 28729, 29753, 30767, 31772, 32768, 33754, 34729, 35693, 36647, 37590, 38521, 39441, 40348, 41243, 42126, 42995, 43852, 44695, 45525, 46341, 47143, 47930, 48703, 49461, 50203, 50931, 51643, 52339, 53020, 53684, 54332, 54963, 55578, 56175, 56756, 57319, 57865, 58393, 58903, 59396, 59870, 60326, 60764, 61183, 61584, 61966, 62328, 62672, 62997, 63303, 63589, 63856, 64104, 64332, 64540, 64729, 64898, 65048, 65177, 65287, 65376, 65446, 65496, 65526, 65536]
def sineAt (k : Nat) : Int := ((sines.getD k 0 : Nat) : Int)

def dec (n : Nat) : List UInt8 := (Nat.toDigits 10 n).map fun c => UInt8.ofNat c.toNat
/-- numbers, a blank between two -/
def blanks : List Nat → List UInt8
  | [] => []
  | [n] => dec n
  | n :: l => dec n ++ 32 :: blanks l
/-- what a digit says -/
def dg (b : UInt8) : Int := ((b.toNat : Int) - 48) % 256
/-- the reference's walk over the table -/
def scan : List UInt8 → Int → Int → Int
  | [], _, n => n
  | b :: l, k, n => if b = 32 then (if k = 0 then n else scan l (k - 1) 0) else scan l k (n * 10 + dg b)
/-- no number on the way is too large -/
def okScan : List UInt8 → Int → Bool
  | [], n => decide (0 ≤ n) && decide (n ≤ 1000000)
  | b :: l, n => decide (0 ≤ n) && decide (n ≤ 1000000) && (if b = 32 then okScan l 0 else okScan l (n * 10 + dg b))
theorem okScan_bound {l : List UInt8} {n : Int} (h : okScan l n = true) : 0 ≤ n ∧ n ≤ 1000000 := by
  cases l <;> simp [okScan] at h <;> omega
def sineText : List UInt8 := blanks sines
theorem sineText_ok : okScan sineText 0 = true := by decide +kernel
theorem sineText_len : sineText.length ≤ 1000 := by decide +kernel
theorem all_at : ((List.range 91).all fun k => scan sineText k 0 == sineAt k && decide (sineAt k ≤ 65536)) = true := by decide +kernel
theorem scan_at {k : Nat} (h : k < 91) : scan sineText k 0 = sineAt k ∧ 0 ≤ sineAt k ∧ sineAt k ≤ 65536 := by
  have h1 := List.all_eq_true.1 all_at k (List.mem_range.2 h)
  simp only [Bool.and_eq_true, beq_iff_eq, decide_eq_true_eq] at h1
  refine ⟨h1.1, ?_, h1.2⟩
  unfold sineAt
  omega

/-- up to half a turn -/
def s1 (r : Nat) : Int := if 90 < r then sineAt (180 - r) else sineAt r
theorem s1_bound {r : Nat} (h : r ≤ 180) : 0 ≤ s1 r ∧ s1 r ≤ 65536 := by
  unfold s1
  split
  · exact (scan_at (by omega)).2
  · exact (scan_at (by omega)).2
/-- of any whole degrees -/
def sinI (d : Int) : Int := if 180 < d % 360 then -(s1 ((d % 360).toNat - 180)) else s1 (d % 360).toNat
theorem sinI_bound (d : Int) : -65536 ≤ sinI d ∧ sinI d ≤ 65536 := by
  unfold sinI
  split
  · have := s1_bound (r := (d % 360).toNat - 180) (by omega); omega
  · have := s1_bound (r := (d % 360).toNat) (by omega); omega
theorem sinI_turn (d : Int) : sinI (d + 360) = sinI d := by
  unfold sinI
  rw [show (d + 360) % 360 = d % 360 by omega]
theorem sinI_mod (d : Int) : sinI (d % 360) = sinI d := by
  unfold sinI
  rw [show d % 360 % 360 = d % 360 by omega]
theorem sinI_mod90 (d : Int) : sinI (d % 360 + 90) = sinI (d + 90) := by
  unfold sinI
  rw [show (d % 360 + 90) % 360 = (d + 90) % 360 by omega]
theorem s1_0 : s1 0 = 0 := by decide
theorem s1_180 : s1 180 = 0 := by decide
theorem sinI_half (d : Int) : sinI (d + 180) = -sinI d := by
  have h0 : 0 ≤ d % 360 := by omega
  have h1 : d % 360 < 360 := by omega
  unfold sinI
  by_cases a : 180 < d % 360
  · rw [if_pos a, if_neg (by omega), Int.neg_neg, show ((d + 180) % 360).toNat = (d % 360).toNat - 180 by omega]
  · rw [if_neg a]
    by_cases b : d % 360 = 0
    · rw [if_neg (by omega), b, show ((d + 180) % 360).toNat = 180 by omega, s1_180]
      rw [show (0 : Int).toNat = 0 from rfl, s1_0]
      rfl
    · by_cases c : d % 360 = 180
      · rw [if_neg (by omega), c, show ((d + 180) % 360).toNat = 0 by omega, s1_0]
        rw [show (180 : Int).toNat = 180 from rfl, s1_180]
        rfl
      · rw [if_pos (by omega), show ((d + 180) % 360).toNat - 180 = (d % 360).toNat by omega]

/-- a matrix that turns -/
def turn (d : Int) : M6 := ⟨sinI (d + 90), sinI d, -sinI d, sinI (d + 90), 0, 0⟩
def rot (n : Int) : M6 × Int := if fits n then (turn ((n + 32768) / 65536), 0) else (none6, 11)
theorem turn_full (n : Int) : turn ((n + 23592960 + 32768) / 65536) = turn ((n + 32768) / 65536) := by
  rw [show (n + 23592960 + 32768) / 65536 = (n + 32768) / 65536 + 360 by omega]
  unfold turn
  rw [sinI_turn, show (n + 32768) / 65536 + 360 + 90 = (n + 32768) / 65536 + 90 + 360 by omega, sinI_turn]
theorem turn_half (n : Int) : turn ((n + 11796480 + 32768) / 65536) = ⟨-sinI ((n + 32768) / 65536 + 90), -sinI ((n + 32768) / 65536), sinI ((n + 32768) / 65536), -sinI ((n + 32768) / 65536 + 90), 0, 0⟩ := by
  rw [show (n + 11796480 + 32768) / 65536 = (n + 32768) / 65536 + 180 by omega]
  unfold turn
  rw [sinI_half, show (n + 32768) / 65536 + 180 + 90 = (n + 32768) / 65536 + 90 + 180 by omega, sinI_half, Int.neg_neg]

end Go.Proofs.YtakickodehebmaaDoor.TurnM
