/- Operators on numbers and truths, in plain integers: what package arith and its reference compute. No program in sight; no condition. -/
import Derived.Test.YtakickodehebmaaDoorTurnM
import Derived.Test.YtakickodehebmaaDoorBitM
namespace Go.Proofs.YtakickodehebmaaDoor.ArM
open Go.Proofs.YtakickodehebmaaDoor.FixM Go.Proofs.YtakickodehebmaaDoor.TurnM

/-- the operators' names -/
def nm : Nat → ByteArray
  | 0 => ⟨#[110, 101, 103]⟩ | 1 => ⟨#[97, 98, 115]⟩ | 2 => ⟨#[99, 101, 105, 108, 105, 110, 103]⟩ | 3 => ⟨#[102, 108, 111, 111, 114]⟩ | 4 => ⟨#[114, 111, 117, 110, 100]⟩ | 5 => ⟨#[116, 114, 117, 110, 99, 97, 116, 101]⟩ | 6 => ⟨#[115, 113, 114, 116]⟩ | 7 => ⟨#[115, 105, 110]⟩ | 8 => ⟨#[99, 111, 115]⟩ | 9 => ⟨#[110, 111, 116]⟩
  | 10 => ⟨#[97, 100, 100]⟩ | 11 => ⟨#[115, 117, 98]⟩ | 12 => ⟨#[109, 117, 108]⟩ | 13 => ⟨#[100, 105, 118]⟩ | 14 => ⟨#[105, 100, 105, 118]⟩ | 15 => ⟨#[109, 111, 100]⟩ | 16 => ⟨#[97, 110, 100]⟩ | 17 => ⟨#[111, 114]⟩ | 18 => ⟨#[120, 111, 114]⟩ | 19 => ⟨#[98, 105, 116, 115, 104, 105, 102, 116]⟩
  | 20 => ⟨#[103, 116]⟩ | 21 => ⟨#[103, 101]⟩ | 22 => ⟨#[108, 116]⟩ | 23 => ⟨#[108, 101]⟩ | _ => ⟨#[]⟩

/-- a kind, a number, an error -/
abbrev R := Int × Int × Int
def numb (k n : Int) : Bool := (k == 1 || k == 2) && fits n
def isI (k n : Int) : Bool := k == 1 && fits n
def isT (k n : Int) : Bool := k == 3 && (n == 0 || n == 1)
def truthN (b : Bool) : Int := if b then 1 else 0
def asReal (k n : Int) : Int × Int := if k = 1 then fromInt n else (n, 0)
def scaled (k n : Int) : Int := if k = 1 then n * 65536 else n
def real (r : Int × Int) : R := if r.2 = 0 then (2, r.1, 0) else (0, 0, r.2)
def tcheck : R := (0, 0, 16)
def exactI (c : Nat) (a b : Int) : Int := if c = 10 then a + b else if c = 11 then a - b else a * b
def inexactI (c : Nat) (a b : Int) : Int × Int := if c = 10 then add a b else if c = 11 then sub a b else if c = 12 then mul a b else div a b
def sums (c : Nat) (k n k' n' : Int) : R :=
  if c ≠ 13 ∧ isI k n = true ∧ isI k' n' = true ∧ fits (exactI c n n') = true then (1, exactI c n n', 0)
  else if (asReal k n).2 = 0 then (if (asReal k' n').2 = 0 then real (inexactI c (asReal k n).1 (asReal k' n').1) else (0, 0, (asReal k' n').2)) else (0, 0, (asReal k n).2)
def quot (c : Nat) (a b : Int) : R := if b = 0 then (0, 0, 18) else if c = 15 then (1, a.tmod b, 0) else if fits (a.tdiv b) = true then (1, a.tdiv b, 0) else (0, 0, 18)
def signs (c : Nat) (k n : Int) : R :=
  if c = 1 ∧ 0 ≤ n then (k, n, 0) else if k = 1 ∧ fits (-n) = true then (1, -n, 0) else if (asReal k n).2 = 0 then real (sub 0 (asReal k n).1) else (0, 0, (asReal k n).2)
def wholes (c : Nat) (k n : Int) : R :=
  if k = 1 then (1, n, 0) else if c = 2 then real (ceiling n) else if c = 4 then real (round n) else if c = 3 then (2, floor n, 0) else (2, truncate n, 0)
def curves (c : Nat) (k n : Int) : R :=
  if (asReal k n).2 = 0 then (if c = 6 then real (sqrt (asReal k n).1) else if c = 7 then real ((rot (asReal k n).1).1.b, (rot (asReal k n).1).2) else real ((rot (asReal k n).1).1.a, (rot (asReal k n).1).2)) else (0, 0, (asReal k n).2)
def un (c : Nat) (k n : Int) : R :=
  if c = 9 then (if isT k n = true then (3, truthN (n == 0), 0) else if isI k n = true then (1, -1 - n, 0) else tcheck)
  else if numb k n = true then (if c ≤ 1 then signs c k n else if 6 ≤ c then curves c k n else wholes c k n) else tcheck
def orderB (c : Nat) (x y : Int) : Bool := if c = 22 then decide (x < y) else if c = 23 then decide (x ≤ y) else if c = 20 then decide (y < x) else decide (y ≤ x)
def u32 (n : Int) : Int := n % 4294967296
def i32 (u : Int) : Int := if 2147483648 ≤ u then u - 4294967296 else u
def shiftI (n b : Int) : Int := if 31 < b ∨ b < -31 then 0 else if 0 ≤ b then i32 (u32 n * 2 ^ b.toNat % 4294967296) else i32 (u32 n / 2 ^ (-b).toNat)
def bin (c : Nat) (k n k' n' : Int) : R :=
  if 16 ≤ c ∧ c ≤ 18 then (if isT k n = true ∧ isT k' n' = true then (3, BitM.res (c - 16) n n', 0) else if isI k n = true ∧ isI k' n' = true then (1, BitM.res (c - 16) n n', 0) else tcheck)
  else if c = 14 ∨ c = 15 ∨ c = 19 then (if isI k n = true ∧ isI k' n' = true then (if c = 19 then (1, shiftI n n', 0) else quot c n n') else tcheck)
  else if numb k n = true ∧ numb k' n' = true then (if 20 ≤ c then (3, truthN (orderB c (scaled k n) (scaled k' n')), 0) else sums c k n k' n') else tcheck

theorem fitsB {n : Int} (h : fits n = true) : -2147483648 ≤ n ∧ n ≤ 2147483647 := fits_iff.1 h
theorem isI_fits {k n : Int} (h : isI k n = true) : k = 1 ∧ -2147483648 ≤ n ∧ n ≤ 2147483647 := by
  simp only [isI, Bool.and_eq_true, beq_iff_eq] at h
  exact ⟨h.1, fitsB h.2⟩
theorem isT_cases {k n : Int} (h : isT k n = true) : k = 3 ∧ (n = 0 ∨ n = 1) := by
  simpa [isT] using h
theorem numb_fits {k n : Int} (h : numb k n = true) : (k = 1 ∨ k = 2) ∧ -2147483648 ≤ n ∧ n ≤ 2147483647 := by
  simp only [numb, Bool.and_eq_true, Bool.or_eq_true, beq_iff_eq] at h
  exact ⟨h.1, fitsB h.2⟩

end Go.Proofs.YtakickodehebmaaDoor.ArM
