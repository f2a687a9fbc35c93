/- Widths of letters in plain numbers. No program in sight; no condition. What the functions of package font return, and the reference's, each over all numbers and letters. No condition. Arrays by value, in a walk: the element at an index. No program in sight; no condition. The fonts' names: what the package-level list holds. No condition. -/
import Derived.WalkKit
import Derived.Test.YtpellcdggaeppaaGreatDoorRows
import Derived.Test.YtpellcdggaeppaaGreatDoorBase
import Derived.Test.YtpellcdggaeppaaGreatDoorStr
import Derived.BigQuiet
import Derived.Deep.QuietTactic
import Derived.Handy
import Derived.Test.YtpellcdggaeppaaGreatDoorCards
import Derived.Test.YtpellcdggaeppaaGreatDoorTie
import Derived.Deep.DeepHandedRow
import Derived.Lib.LaidTab
section
namespace Go.Proofs.YtpellcdggaeppaaGreatDoor.FontM

def helv : List Nat := [278, 278, 355, 556, 556, 889, 667, 222, 333, 333, 389, 584, 278, 333, 278, 278, 556, 556, 556, 556, 556, 556, 556, 556,
  556, 556, 278, 278, 584, 584, 584, 556, 1015, 667, 667, 722, 722, 667, 611, 778, 722, 278, 500, 667, 556, 833, 722, 778,
  667, 778, 722, 667, 611, 722, 667, 944, 667, 667, 611, 278, 278, 278, 469, 556, 222, 556, 556, 500, 556, 556, 278, 556,
  556, 222, 222, 500, 222, 833, 556, 556, 556, 556, 333, 500, 278, 556, 500, 722, 500, 500, 500, 334, 260, 334, 584]
def helvB : List Nat := [278, 333, 474, 556, 556, 889, 722, 278, 333, 333, 389, 584, 278, 333, 278, 278, 556, 556, 556, 556, 556, 556, 556, 556,
  556, 556, 333, 333, 584, 584, 584, 611, 975, 722, 722, 722, 722, 667, 611, 778, 722, 278, 556, 722, 611, 833, 722, 778,
  667, 778, 722, 667, 611, 722, 667, 944, 667, 667, 611, 333, 278, 333, 584, 556, 278, 556, 611, 556, 611, 556, 333, 611,
  611, 278, 278, 556, 278, 889, 611, 611, 611, 611, 389, 556, 333, 611, 556, 778, 556, 556, 500, 389, 280, 389, 584]
def times : List Nat := [250, 333, 408, 500, 500, 833, 778, 333, 333, 333, 500, 564, 250, 333, 250, 278, 500, 500, 500, 500, 500, 500, 500, 500,
  500, 500, 278, 278, 564, 564, 564, 444, 921, 722, 667, 667, 722, 611, 556, 722, 722, 333, 389, 722, 611, 889, 722, 722,
  556, 722, 667, 556, 611, 722, 722, 944, 722, 722, 611, 333, 278, 333, 469, 500, 333, 444, 500, 444, 500, 444, 333, 500,
  500, 278, 278, 500, 278, 778, 500, 500, 500, 500, 333, 389, 278, 500, 500, 722, 500, 500, 444, 480, 200, 480, 541]
def timesB : List Nat := [250, 333, 555, 500, 500, 1000, 833, 333, 333, 333, 500, 570, 250, 333, 250, 278, 500, 500, 500, 500, 500, 500, 500, 500,
  500, 500, 333, 333, 570, 570, 570, 500, 930, 722, 667, 722, 722, 667, 611, 778, 778, 389, 500, 778, 667, 944, 722, 778,
  611, 778, 722, 556, 667, 722, 722, 1000, 722, 722, 667, 333, 278, 333, 581, 500, 333, 500, 556, 444, 556, 444, 333, 500,
  556, 278, 333, 556, 278, 833, 556, 500, 556, 556, 444, 389, 333, 556, 500, 722, 500, 500, 444, 394, 220, 394, 520]
def timesI : List Nat := [250, 333, 420, 500, 500, 833, 778, 333, 333, 333, 500, 675, 250, 333, 250, 278, 500, 500, 500, 500, 500, 500, 500, 500,
  500, 500, 333, 333, 675, 675, 675, 500, 920, 611, 611, 667, 722, 611, 611, 722, 722, 333, 444, 667, 556, 833, 667, 722,
  611, 722, 611, 500, 556, 722, 611, 833, 611, 556, 556, 389, 278, 389, 422, 500, 333, 500, 500, 444, 500, 444, 278, 500,
  500, 278, 278, 444, 278, 722, 500, 500, 500, 500, 389, 389, 278, 500, 444, 667, 444, 444, 389, 400, 275, 400, 541]
def timesBI : List Nat := [250, 389, 555, 500, 500, 833, 778, 333, 333, 333, 500, 570, 250, 333, 250, 278, 500, 500, 500, 500, 500, 500, 500, 500,
  500, 500, 333, 333, 570, 570, 570, 500, 832, 667, 667, 667, 722, 667, 667, 722, 778, 389, 500, 667, 611, 889, 722, 722,
  611, 722, 667, 556, 611, 722, 667, 889, 667, 611, 611, 333, 278, 333, 570, 500, 333, 500, 500, 444, 500, 444, 333, 500,
  556, 278, 278, 500, 278, 778, 556, 500, 500, 500, 389, 389, 278, 556, 444, 667, 500, 444, 389, 348, 220, 348, 570]

/-- a font's widths; none: they are all the same -/
def tab (i : Int) : List Nat :=
  if i = 4 ∨ i = 6 then helv else if i = 5 ∨ i = 7 then helvB else if i = 8 then times else if i = 9 then timesB else if i = 10 then timesI else if i = 11 then timesBI else []

def digit (n : Nat) : UInt8 := UInt8.ofNat (48 + n % 10)
/-- four digits each -/
def four (l : List Nat) : List UInt8 := l.flatMap fun n => [digit (n / 1000), digit (n / 100), digit (n / 10), digit n]
def dec (n : Nat) : List UInt8 := (Nat.toDigits 10 n).map fun c => UInt8.ofNat c.toNat
/-- numbers, a blank between two -/
def blanks : List Nat → List UInt8
  | [] => []
  | [n] => dec n
  | n :: l => dec n ++ 32 :: blanks l

/-- what a digit says -/
def dg (b : UInt8) : Int := ((b.toNat : Int) - 48) % 256
/-- the value of digits -/
def val (n : Int) (l : List UInt8) : Int := l.foldl (fun n b => 10 * n + dg b) n

theorem val_snoc (n : Int) (l : List UInt8) (b : UInt8) : val n (l ++ [b]) = 10 * val n l + dg b := by simp [val]

def inside (i c : Int) : Bool := decide (0 ≤ i) && decide (i < 14) && decide (32 ≤ c) && decide (c ≤ 126)

/-- how wide a letter is -/
def width (i c : Int) : Int :=
  if inside i c then (if tab i = [] then (if i = 13 then 788 else 600) else val 0 (((four (tab i)).drop (4 * (c - 32).toNat)).take 4)) else 0

/-- the reference's walk over a table -/
def scan : List UInt8 → Int → Int → Int
  | [], _, n => n
  | b :: l, k, n => if b = 32 then (if k = 0 then n else scan l (k - 1) 0) else scan l k (n * 10 + dg b)

def widthR (i c : Int) : Int :=
  if inside i c then (if tab i = [] then (if i = 13 then 788 else 600) else scan (blanks (tab i)) (c - 32) 0) else 0

/-- no number on the way is too large -/
def okScan : List UInt8 → Int → Bool
  | [], n => decide (0 ≤ n) && decide (n ≤ 1000000)
  | b :: l, n => decide (0 ≤ n) && decide (n ≤ 1000000) && (if b = 32 then okScan l 0 else okScan l (n * 10 + dg b))
theorem okScan_bound {l : List UInt8} {n : Int} (h : okScan l n = true) : 0 ≤ n ∧ n ≤ 1000000 := by
  cases l <;> simp [okScan] at h <;> omega

def okAt (t : List Nat) (k : Nat) : Bool := val 0 (((four t).drop (4 * k)).take 4) == scan (blanks t) k 0 && decide (0 ≤ val 0 (((four t).drop (4 * k)).take 4)) && decide (val 0 (((four t).drop (4 * k)).take 4) ≤ 2000)
theorem ok_helv : (List.range 95).all (okAt helv) = true := by decide +kernel
theorem ok_helvB : (List.range 95).all (okAt helvB) = true := by decide +kernel
theorem ok_times : (List.range 95).all (okAt times) = true := by decide +kernel
theorem ok_timesB : (List.range 95).all (okAt timesB) = true := by decide +kernel
theorem ok_timesI : (List.range 95).all (okAt timesI) = true := by decide +kernel
theorem ok_timesBI : (List.range 95).all (okAt timesBI) = true := by decide +kernel
set_option maxRecDepth 100000 in
theorem ne_helv : helv ≠ [] := by unfold helv; exact List.cons_ne_nil _ _
theorem scan_helv : okScan (blanks helv) 0 = true := by decide +kernel
theorem len_helv : (four helv).length = 380 := by decide +kernel
set_option maxRecDepth 100000 in
theorem ne_helvB : helvB ≠ [] := by unfold helvB; exact List.cons_ne_nil _ _
theorem scan_helvB : okScan (blanks helvB) 0 = true := by decide +kernel
theorem len_helvB : (four helvB).length = 380 := by decide +kernel
set_option maxRecDepth 100000 in
theorem ne_times : times ≠ [] := by unfold times; exact List.cons_ne_nil _ _
theorem scan_times : okScan (blanks times) 0 = true := by decide +kernel
theorem len_times : (four times).length = 380 := by decide +kernel
set_option maxRecDepth 100000 in
theorem ne_timesB : timesB ≠ [] := by unfold timesB; exact List.cons_ne_nil _ _
theorem scan_timesB : okScan (blanks timesB) 0 = true := by decide +kernel
theorem len_timesB : (four timesB).length = 380 := by decide +kernel
set_option maxRecDepth 100000 in
theorem ne_timesI : timesI ≠ [] := by unfold timesI; exact List.cons_ne_nil _ _
theorem scan_timesI : okScan (blanks timesI) 0 = true := by decide +kernel
theorem len_timesI : (four timesI).length = 380 := by decide +kernel
set_option maxRecDepth 100000 in
theorem ne_timesBI : timesBI ≠ [] := by unfold timesBI; exact List.cons_ne_nil _ _
theorem scan_timesBI : okScan (blanks timesBI) 0 = true := by decide +kernel
theorem len_timesBI : (four timesBI).length = 380 := by decide +kernel

theorem tab_cases (i : Int) : tab i = [] ∨ (tab i ≠ [] ∧ (List.range 95).all (okAt (tab i)) = true ∧ (four (tab i)).length = 380) := by
  unfold tab
  repeat' split
  all_goals first
    | exact .inl rfl
    | exact .inr ⟨ne_helv, ok_helv, len_helv⟩
    | exact .inr ⟨ne_helvB, ok_helvB, len_helvB⟩
    | exact .inr ⟨ne_times, ok_times, len_times⟩
    | exact .inr ⟨ne_timesB, ok_timesB, len_timesB⟩
    | exact .inr ⟨ne_timesI, ok_timesI, len_timesI⟩
    | exact .inr ⟨ne_timesBI, ok_timesBI, len_timesBI⟩

theorem tab_scan (i : Int) : tab i = [] ∨ (tab i ≠ [] ∧ okScan (blanks (tab i)) 0 = true ∧ (blanks (tab i)).isEmpty = false ∧ (blanks (tab i)).length ≤ 1000) := by
  unfold tab
  repeat' split
  all_goals first
    | exact .inl rfl
    | exact .inr ⟨ne_helv, scan_helv, by decide +kernel, by decide +kernel⟩
    | exact .inr ⟨ne_helvB, scan_helvB, by decide +kernel, by decide +kernel⟩
    | exact .inr ⟨ne_times, scan_times, by decide +kernel, by decide +kernel⟩
    | exact .inr ⟨ne_timesB, scan_timesB, by decide +kernel, by decide +kernel⟩
    | exact .inr ⟨ne_timesI, scan_timesI, by decide +kernel, by decide +kernel⟩
    | exact .inr ⟨ne_timesBI, scan_timesBI, by decide +kernel, by decide +kernel⟩

theorem ok_at {i c : Int} (h : inside i c = true) (ht : tab i ≠ []) : okAt (tab i) (c - 32).toNat = true := by
  rcases tab_cases i with h0 | ⟨_, h1, _⟩
  · exact absurd h0 ht
  · rw [List.all_eq_true] at h1
    simp only [inside, Bool.and_eq_true, decide_eq_true_eq] at h
    exact h1 _ (List.mem_range.2 (by omega))

theorem width_eq (i c : Int) : width i c = widthR i c := by
  unfold width widthR
  by_cases h : inside i c = true
  · rw [if_pos h, if_pos h]
    by_cases ht : tab i = []
    · rw [if_pos ht, if_pos ht]
    · rw [if_neg ht, if_neg ht]
      have h1 := ok_at h ht
      simp only [okAt, Bool.and_eq_true, beq_iff_eq] at h1
      rw [h1.1.1]
      simp only [inside, Bool.and_eq_true, decide_eq_true_eq] at h
      congr 1
      omega
  · rw [if_neg h, if_neg h]

theorem width_bound (i c : Int) : 0 ≤ width i c ∧ width i c ≤ 2000 := by
  unfold width
  by_cases h : inside i c = true
  · rw [if_pos h]
    by_cases ht : tab i = []
    · rw [if_pos ht]; split <;> decide
    · rw [if_neg ht]
      have h1 := ok_at h ht
      simp only [okAt, Bool.and_eq_true, decide_eq_true_eq] at h1
      exact ⟨h1.1.2, h1.2⟩
  · rw [if_neg h]; decide

/-- of many letters -/
def sumW (i : Int) (l : List Int) : Int := (l.map (width i)).sum
theorem sumW_append (i : Int) (a b : List Int) : sumW i (a ++ b) = sumW i a + sumW i b := by simp [sumW]
theorem sumW_bound (i : Int) (l : List Int) : 0 ≤ sumW i l ∧ sumW i l ≤ 2000 * l.length := by
  induction l with
  | nil => simp [sumW]
  | cons c l ih =>
    have := width_bound i c
    simp only [sumW, List.map_cons, List.sum_cons, List.length_cons] at *
    omega

end Go.Proofs.YtpellcdggaeppaaGreatDoor.FontM
end

section
namespace Go.Proofs.YtpellcdggaeppaaGreatDoor.Font
open Go.ChangeShapes Go.WideShapes Go.ChangeAt Go.RowKit
open Go.Proofs.YtpellcdggaeppaaGreatDoor.FontM


theorem inside_no {i c : Int} (h : inside i c = false) : decide (i < 0) = true ∨ (decide (i < 0) = false ∧ decide (14 ≤ i) = true ∧ decide (13 < i) = true) ∨ (decide (i < 0) = false ∧ decide (14 ≤ i) = false ∧ decide (13 < i) = false ∧ decide (c < 32) = true) ∨ (decide (i < 0) = false ∧ decide (14 ≤ i) = false ∧ decide (13 < i) = false ∧ decide (c < 32) = false ∧ decide (126 < c) = true) := by
  simp only [inside, Bool.and_eq_false_iff, decide_eq_false_iff_not, decide_eq_true_eq] at *
  omega
theorem inside_yes {i c : Int} (h : inside i c = true) : decide (i < 0) = false ∧ decide (14 ≤ i) = false ∧ decide (13 < i) = false ∧ decide (c < 32) = false ∧ decide (126 < c) = false ∧ 0 ≤ i ∧ i ≤ 13 ∧ 32 ≤ c ∧ c ≤ 126 := by
  simp only [inside, Bool.and_eq_true, decide_eq_false_iff_not, decide_eq_true_eq] at *
  omega

end Go.Proofs.YtpellcdggaeppaaGreatDoor.Font
end

section
namespace Go.Proofs.YtpellcdggaeppaaGreatDoor
open Go Go.RowKit
theorem run_index_agg1 {P : Program} (w : World) (t e : TypeId) (n : Nat) (cs : Array Value) (k : IntKind) (i : Nat) (v : Value) (ht : P.underlying t = some (.array n e))
    (hag : ∀ w, (isAgg e).run P w = .ok false w) (hi : i < n) (hv : cs[i]? = some v) (hs : (P.info? e).map (·.size) = some 1) :
    (Instr.index t (.agg cs) (.int k (i : Int))).run P w = .ok v w := by
  obtain ⟨inf, hinf, hsz⟩ := Option.map_eq_some_iff.1 hs
  simp [Instr.index, run_underlying ht, asIntOf, part, sizeOf, typeInfo, hinf, hsz, hag, hi, hv, go_sem]
end Go.Proofs.YtpellcdggaeppaaGreatDoor
end

section
namespace Go.Proofs.YtpellcdggaeppaaGreatDoor.Font
open Go.ChangeShapes Go.WideShapes Go.ChangeAt Go.RowKit
open Go.Proofs.YtpellcdggaeppaaGreatDoor.FontM

def namesL : List (List UInt8) := [[67, 111, 117, 114, 105, 101, 114], [67, 111, 117, 114, 105, 101, 114, 45, 66, 111, 108, 100], [67, 111, 117, 114, 105, 101, 114, 45, 79, 98, 108, 105, 113, 117, 101], [67, 111, 117, 114, 105, 101, 114, 45, 66, 111, 108, 100, 79, 98, 108, 105, 113, 117, 101], [72, 101, 108, 118, 101, 116, 105, 99, 97], [72, 101, 108, 118, 101, 116, 105, 99, 97, 45, 66, 111, 108, 100], [72, 101, 108, 118, 101, 116, 105, 99, 97, 45, 79, 98, 108, 105, 113, 117, 101], [72, 101, 108, 118, 101, 116, 105, 99, 97, 45, 66, 111, 108, 100, 79, 98, 108, 105, 113, 117, 101], [84, 105, 109, 101, 115, 45, 82, 111, 109, 97, 110], [84, 105, 109, 101, 115, 45, 66, 111, 108, 100], [84, 105, 109, 101, 115, 45, 73, 116, 97, 108, 105, 99], [84, 105, 109, 101, 115, 45, 66, 111, 108, 100, 73, 116, 97, 108, 105, 99], [83, 121, 109, 98, 111, 108], [90, 97, 112, 102, 68, 105, 110, 103, 98, 97, 116, 115]]

def namesV : Array Value := (namesL.map fun l => Value.string ⟨l.toArray⟩).toArray
/-- the list's block -/
def Tab (W : World) : Prop := ∃ t fr, W.heap[1]? = some (.cells namesV t fr)
theorem namesV_at (i : Nat) (h : i < 14) : namesV[i]? = some (.string ⟨(namesL.getD i []).toArray⟩) := by
  have hl : namesL.length = 14 := rfl
  simp [namesV, List.getD, show i < namesL.length by omega]
theorem Tab.cell {W : World} (h : Tab W) : ∀ i, i < 14 → W.cell? ⟨1, i, none⟩ = some (.string ⟨(namesL.getD i []).toArray⟩) := by
  intro i hi
  obtain ⟨t, fr, hb⟩ := h
  rw [← namesV_at i hi]
  simp [World.cell?, hb]

theorem gTab : Tryz.prog.globalNamed "mezzotint/font.names" = some 1 := by kernel_rfl
theorem gTabType : (Tryz.prog.globals[1]?).map (·.type) = some 187 := by kernel_rfl
theorem cellsT : Tryz.prog.cellsOf 187 = 14 := by kernel_rfl
theorem cellsE : Tryz.prog.cellsOf 9 = 1 := by kernel_rfl

/-- an array of strings that reads as these holds these, cell for cell -/
theorem cells_of_strings {H : Type} {enc : TypeId × Value → H} {P : Program} {w : World} {base : Nat} {sp : Nat → Bool} {held : Bool} {fuel : Nat} {t e : TypeId} {n : Nat} {cs : List Value} {ls : List (List UInt8)} {p : List MemPlace}
    (ht : P.underlying t = some (.array n e)) (he : P.underlying e = some .string) (hce : P.cellsOf e = 1) (hct : P.cellsOf t = n) (hln : ls.length = n)
    (h : DataW.trod enc P w base sp held fuel t cs = some (.agg (ls.map fun l => .lit (.string l)), p)) : cs = ls.map fun l => Value.string ⟨l.toArray⟩ := by
  cases fuel with
  | zero => simp [DataW.trod] at h
  | succ fuel =>
    simp only [DataW.trod, ht, hce, hct, Nat.mul_one] at h
    split at h
    · rename_i hl
      obtain ⟨xs, hm, hx⟩ := Option.map_eq_some_iff.1 h
      have hxs : xs.map (·.1) = ls.map fun l => (DataW.lit (.string l) : DataW H) := by
        have := congrArg Prod.fst hx
        simpa using this
      apply List.ext_getElem?
      intro i
      by_cases hi : i < n
      · obtain ⟨b, hb, hf⟩ := Lib.mapM_at hm i i (by simp [hi])
        obtain ⟨z, hc, rfl, _⟩ := DataW.trod_string he hf
        have h1 : cs[i]? = some (.string z) := by
          have := congrArg (·[0]?) hc
          simpa [List.getElem?_take, List.getElem?_drop] using this
        have h2 : (xs.map (·.1))[i]? = some (DataW.lit (.string z.data.toList) : DataW H) := by simp [hb]
        rw [hxs] at h2
        simp only [List.getElem?_map, Option.map_eq_some_iff, DataW.lit.injEq, Lit.string.injEq] at h2
        obtain ⟨l, hl2, hl3⟩ := h2
        rw [h1, List.getElem?_map, hl2]
        subst hl3
        rfl
      · rw [List.getElem?_eq_none (by omega), List.getElem?_eq_none (by simp; omega)]
    · cases h

theorem table {W : World} (h : laidMetH Tryz.prog [("mezzotint/font.names", Rows.laid_mezzotint_font_names)] W) : Tab W := by
  have h' : laidMet Tryz.prog [("mezzotint/font.names", .agg (namesL.map fun l => .lit (.string l)))] W := h
  obtain ⟨ps, ⟨g', t', cs, fuel, p, q, hg', ht', hvar, hd, _, _⟩, _⟩ := h'
  obtain rfl := Option.some.inj (gTab.symm.trans hg')
  obtain rfl := Option.some.inj (gTabType.symm.trans ht')
  have h1 := cells_of_strings Tryz.underlying187 Tryz.underlying9 cellsE cellsT rfl hd
  have h2 : cs = namesV := by
    apply Array.ext'
    rw [h1]
    rfl
  subst h2
  simp only [World.var?, gTab, Option.bind_some] at hvar
  split at hvar
  · rename_i cs' t fr hb
    exact ⟨t, fr, by rw [hb]; injection hvar with hv; rw [hv]⟩
  · cases hvar

theorem Tab.up {W W1 : World} (h : Tab W) (hup : Up W W1) : Tab W1 := by
  obtain ⟨t, fr, hb⟩ := h
  exact ⟨t, fr, by rw [hup.block _ (Array.getElem?_eq_some_iff.1 hb).1]; exact hb⟩

theorem name_calls (i : Int) (w : World) (hT : Tab w) :
    Calls Tryz.prog 108 #[.int .i64 i] w fun e w' => e = .returned (.string ⟨(if 0 ≤ i ∧ i < 14 then namesL.getD i.toNat [] else []).toArray⟩) ∧ w = w' := by
  have HT := Lib.hid hT
  clear hT
  by_cases h0 : 0 ≤ i
  · by_cases h1 : i < 14
    · rw [if_pos ⟨h0, h1⟩]
      obtain ⟨k, rfl⟩ := Int.eq_ofNat_of_zero_le h0
      have d1 : decide ((k : Int) < 0) = false := decide_eq_false (by omega)
      have d2 : decide (14 ≤ (k : Int)) = false := decide_eq_false (by omega)
      have hcell := HT.out.cell k (by omega)
      rw [Int.toNat_natCast]
      generalize (⟨(namesL.getD k []).toArray⟩ : ByteArray) = s at *
      go_enter Tryz.func108, Tryz.ntmps108
      go_wp2
      go_ret
      exact ⟨rfl, rfl⟩
    · rw [if_neg (by omega)]
      have d1 : decide (i < 0) = false := decide_eq_false (by omega)
      have d2 : decide (14 ≤ i) = true := decide_eq_true (by omega)
      go_enter Tryz.func108, Tryz.ntmps108
      go_wp2
      go_ret
      exact ⟨rfl, rfl⟩
  · rw [if_neg (by omega)]
    have d1 : decide (i < 0) = true := decide_eq_true (by omega)
    go_enter Tryz.func108, Tryz.ntmps108
    go_wp2
    go_ret
    exact ⟨rfl, rfl⟩

end Go.Proofs.YtpellcdggaeppaaGreatDoor.Font
end
