/- The numbers with 16 bits behind the point, in plain integers: what the functions of package fix and of its reference compute. No program in sight; no condition. -/
namespace Go.Proofs.YtpellcdggaeppaaGreatDoor.FixM

def fits (n : Int) : Bool := decide (-2147483648 ≤ n) && decide (n ≤ 2147483647)
theorem fits_iff {n : Int} : fits n = true ↔ -2147483648 ≤ n ∧ n ≤ 2147483647 := by simp [fits]
theorem fits_false {n : Int} : fits n = false ↔ ¬ (-2147483648 ≤ n ∧ n ≤ 2147483647) := by
  rw [← fits_iff]; simp
theorem fits_true {n : Int} (h1 : -2147483648 ≤ n) (h2 : n ≤ 2147483647) : fits n = true := fits_iff.2 ⟨h1, h2⟩

/-- the quotient, rounded; of two as near the one farther from 0 -/
def rndp (a b : Int) : Int :=
  if b ≤ 2 * a.tmod b then a.tdiv b + 1 else if b ≤ -2 * a.tmod b then a.tdiv b - 1 else a.tdiv b
def rnd (a b : Int) : Int := if b < 0 then rndp (-a) (-b) else rndp a b

def within (n : Int) : Int × Int := if fits n then (n, 0) else (0, 18)
def add (a b : Int) : Int × Int := if fits a && fits b then within (a + b) else (0, 11)
def sub (a b : Int) : Int × Int := if fits a && fits b then within (a - b) else (0, 11)
def mul (a b : Int) : Int × Int := if fits a && fits b then within (rnd (a * b) 65536) else (0, 11)
def div (a b : Int) : Int × Int := if fits a && fits b then (if b = 0 then (0, 18) else within (rnd (a * 65536) b)) else (0, 11)

/-- what division leaves -/
theorem tdm (a b : Int) (hb : 0 < b) :
    b * a.tdiv b + a.tmod b = a ∧ -b < a.tmod b ∧ a.tmod b < b ∧ (0 ≤ a → 0 ≤ a.tmod b) ∧ (a ≤ 0 → a.tmod b ≤ 0) ∧ (0 ≤ a → 0 ≤ a.tdiv b) ∧ (a ≤ 0 → a.tdiv b ≤ 0) := by
  have h0 := Int.mul_tdiv_add_tmod a b
  by_cases ha : 0 ≤ a
  · have h1 := Int.tmod_nonneg b ha
    have h2 := Int.tmod_lt_of_pos a hb
    have h3 : 0 ≤ a.tdiv b := Int.tdiv_nonneg ha (by omega)
    refine ⟨h0, by omega, h2, fun _ => h1, fun h => ?_, fun _ => h3, fun h => ?_⟩
    · have : a = 0 := by omega
      subst this; simp
    · have : a = 0 := by omega
      subst this; simp
  · have h1 := Int.tmod_nonneg b (a := -a) (by omega)
    have h2 := Int.tmod_lt_of_pos (-a) hb
    have h3 : 0 ≤ (-a).tdiv b := Int.tdiv_nonneg (by omega) (by omega)
    rw [Int.neg_tmod] at h1 h2
    rw [Int.neg_tdiv] at h3
    exact ⟨h0, by omega, by omega, fun h => absurd h ha, fun _ => by omega, fun h => absurd h ha, fun _ => by omega⟩

/-- sizes of a quotient -/
theorem tdiv_le (a b : Int) (hb : 0 < b) : (0 ≤ a → a.tdiv b ≤ a) ∧ (a ≤ 0 → a ≤ a.tdiv b) := by
  obtain ⟨h0, h1, h2, h3, h4, h5, h6⟩ := tdm a b hb
  constructor
  · intro ha
    have h7 := h5 ha
    have h8 := h3 ha
    have : a.tdiv b ≤ b * a.tdiv b := by
      have := Int.mul_le_mul_of_nonneg_right (show (1 : Int) ≤ b by omega) h7
      omega
    omega
  · intro ha
    have h7 := h6 ha
    have h8 := h4 ha
    have : b * a.tdiv b ≤ a.tdiv b := by
      have := Int.mul_le_mul_of_nonneg_right (show (1 : Int) ≤ b by omega) (show 0 ≤ -a.tdiv b by omega)
      simp only [Int.mul_neg, Int.one_mul] at this
      omega
    omega

/-- the reference's way: by the sizes alone -/
theorem rnd_ref_pos (a b : Int) (ha : 0 ≤ a) (hb : 0 < b) : rndp a b = if b - a % b ≤ a % b then a / b + 1 else a / b := by
  obtain ⟨h0, h1, h2, h3, h4, h5, h6⟩ := tdm a b hb
  have e1 : a.tmod b = a % b := Int.tmod_eq_emod_of_nonneg ha
  have e2 : a.tdiv b = a / b := Int.tdiv_eq_ediv_of_nonneg ha
  have h8 := h3 ha
  unfold rndp
  rw [e1] at *
  rw [e2]
  split <;> split <;> (try omega) <;> split <;> omega

theorem rndp_neg (a b : Int) (hb : 0 < b) : rndp (-a) b = - rndp a b := by
  obtain ⟨h0, h1, h2, h3, h4, h5, h6⟩ := tdm a b hb
  unfold rndp
  rw [Int.neg_tmod, Int.neg_tdiv]
  split <;> split <;> (try omega) <;> split <;> (try omega) <;> split <;> omega

/-- nearness: the two facts that say what a rounded quotient is -/
theorem rndp_near (a b : Int) (hb : 0 < b) :
    2 * (a - rndp a b * b) ≤ b ∧ -b ≤ 2 * (a - rndp a b * b) ∧ (2 * (a - rndp a b * b) = b → a < 0) ∧ (2 * (a - rndp a b * b) = -b → 0 < a) := by
  obtain ⟨h0, h1, h2, h3, h4, h5, h6⟩ := tdm a b hb
  have hc : a.tdiv b * b = b * a.tdiv b := Int.mul_comm _ _
  unfold rndp
  split
  · rw [Int.add_mul, Int.one_mul, hc]
    refine ⟨by omega, by omega, fun h => by omega, fun h => ?_⟩
    by_cases ha : a ≤ 0
    · have := h4 ha; omega
    · omega
  · split
    · rw [Int.sub_mul, Int.one_mul, hc]
      refine ⟨by omega, by omega, fun h => ?_, fun h => by omega⟩
      by_cases ha : 0 ≤ a
      · have := h3 ha; omega
      · omega
    · rw [hc]
      refine ⟨by omega, by omega, fun h => by omega, fun h => by omega⟩

/-- sizes of a rounded quotient -/
theorem rndp_size (a b : Int) (hb : 0 < b) : (0 ≤ a → 0 ≤ rndp a b ∧ rndp a b ≤ a + 1) ∧ (a ≤ 0 → a - 1 ≤ rndp a b ∧ rndp a b ≤ 0) := by
  obtain ⟨h0, h1, h2, h3, h4, h5, h6⟩ := tdm a b hb
  obtain ⟨k1, k2⟩ := tdiv_le a b hb
  constructor
  · intro ha
    have := h3 ha; have := h5 ha; have := k1 ha
    unfold rndp
    split
    · omega
    · split <;> omega
  · intro ha
    have := h4 ha; have := h6 ha; have := k2 ha
    unfold rndp
    split
    · omega
    · split <;> omega

theorem rndp_exact (q b : Int) (hb : 0 < b) : rndp (q * b) b = q := by
  have h1 : (q * b).tmod b = 0 := Int.mul_tmod_left q b
  have h2 : (q * b).tdiv b = q := Int.mul_tdiv_cancel q (by omega)
  unfold rndp
  rw [h1, h2]
  split
  · omega
  · split
    · omega
    · rfl

theorem add_comm' (a b : Int) : add a b = add b a := by
  unfold add
  rw [Int.add_comm, Bool.and_comm]
theorem mul_comm' (a b : Int) : mul a b = mul b a := by
  unfold mul
  rw [Int.mul_comm, Bool.and_comm]

theorem mul_bound {a b : Int} (ha : fits a = true) (hb : fits b = true) : -4611686018427387904 ≤ a * b ∧ a * b ≤ 4611686018427387904 := by
  rw [fits_iff] at ha hb
  constructor
  · by_cases h : 0 ≤ a
    · have h1 := Int.mul_le_mul_of_nonneg_left (show -2147483648 ≤ b from hb.1) h
      have h2 := Int.mul_le_mul_of_nonneg_right (show a ≤ 2147483648 by omega) (show (0:Int) ≤ 2147483648 by omega)
      omega
    · have h1 := Int.mul_le_mul_of_nonneg_left (show b ≤ 2147483648 by omega) (show 0 ≤ -a by omega)
      simp only [Int.neg_mul] at h1
      have h2 := Int.mul_le_mul_of_nonneg_right (show -a ≤ 2147483648 by omega) (show (0:Int) ≤ 2147483648 by omega)
      omega
  · by_cases h : 0 ≤ a
    · have h1 := Int.mul_le_mul_of_nonneg_left (show b ≤ 2147483648 by omega) h
      have h2 := Int.mul_le_mul_of_nonneg_right (show a ≤ 2147483648 by omega) (show (0:Int) ≤ 2147483648 by omega)
      omega
    · have h1 := Int.mul_le_mul_of_nonneg_left (show -2147483648 ≤ b by omega) (show 0 ≤ -a by omega)
      simp only [Int.neg_mul] at h1
      have h2 := Int.mul_le_mul_of_nonneg_right (show -a ≤ 2147483648 by omega) (show (0:Int) ≤ 2147483648 by omega)
      omega

/-- the same below 0, as the walk writes it -/
theorem tdmn (a b : Int) (hb : b < 0) : b < -a.tmod b ∧ -a.tmod b < -b ∧ (0 ≤ -a → 0 ≤ a.tdiv b ∧ a.tdiv b ≤ -a) ∧ (-a ≤ 0 → a.tdiv b ≤ 0 ∧ -a ≤ a.tdiv b) := by
  obtain ⟨-, k1, k2, -, -, k5, k6⟩ := tdm (-a) (-b) (by omega)
  obtain ⟨k3, k4⟩ := tdiv_le (-a) (-b) (by omega)
  simp only [Int.neg_tdiv, Int.tdiv_neg, Int.neg_neg, Int.neg_tmod, Int.tmod_neg] at *
  exact ⟨k1, k2, fun h => ⟨k5 h, k3 h⟩, fun h => ⟨k6 h, k4 h⟩⟩
theorem rndp_neg_neg (a b : Int) : rndp (-a) (-b) = if -b ≤ 2 * -a.tmod b then a.tdiv b + 1 else if -b ≤ -2 * -a.tmod b then a.tdiv b - 1 else a.tdiv b := by
  unfold rndp
  simp only [Int.neg_tdiv, Int.tdiv_neg, Int.neg_neg, Int.neg_tmod, Int.tmod_neg]

/-- the reference's way, by the four signs, as its walk writes it -/
theorem ref_nn (a b : Int) (ha : a < 0) (hb : b < 0) : rnd a b = (if -b + a.tmod b ≤ -a.tmod b then a.tdiv b + 1 else a.tdiv b) ∧ 0 ≤ -a.tmod b ∧ -a.tmod b < -b ∧ 0 ≤ a.tdiv b ∧ a.tdiv b ≤ -a := by
  obtain ⟨k1, k2, k3, k4⟩ := tdmn a b hb
  obtain ⟨-, -, -, j3, -⟩ := tdm (-a) (-b) (by omega)
  simp only [Int.neg_tmod, Int.tmod_neg] at j3
  have := j3 (by omega)
  have := k3 (by omega)
  refine ⟨?_, by omega, by omega, by omega, by omega⟩
  rw [rnd, if_pos hb, rndp_neg_neg]
  split <;> split <;> (try omega) <;> split <;> omega
theorem ref_np (a b : Int) (ha : a < 0) (hb : 0 < b) : rnd a b = -(if b + a.tmod b ≤ -a.tmod b then -a.tdiv b + 1 else -a.tdiv b) ∧ 0 ≤ -a.tmod b ∧ -a.tmod b < b ∧ 0 ≤ -a.tdiv b ∧ -a.tdiv b ≤ -a := by
  obtain ⟨-, k1, k2, -, k3, -, k4⟩ := tdm a b hb
  obtain ⟨-, k5⟩ := tdiv_le a b hb
  have := k3 (by omega)
  have := k4 (by omega)
  have := k5 (by omega)
  refine ⟨?_, by omega, by omega, by omega, by omega⟩
  rw [rnd, if_neg (by omega), rndp]
  split <;> split <;> (try omega) <;> split <;> omega
theorem ref_pn (a b : Int) (ha : 0 ≤ a) (hb : b < 0) : rnd a b = -(if -b - a % b ≤ a % b then -a.tdiv b + 1 else -a.tdiv b) ∧ 0 ≤ a % b ∧ a % b < -b ∧ 0 ≤ -a.tdiv b ∧ -a.tdiv b ≤ a := by
  obtain ⟨k1, k2, k3, k4⟩ := tdmn a b hb
  obtain ⟨-, -, -, -, j3, -⟩ := tdm (-a) (-b) (by omega)
  simp only [Int.neg_tmod, Int.tmod_neg] at j3
  have := j3 (by omega)
  have := k4 (by omega)
  have e := Int.tmod_eq_emod_of_nonneg (b := b) ha
  rw [rnd, if_pos hb, rndp_neg_neg, ← e]
  refine ⟨?_, by omega, by omega, by omega, by omega⟩
  split <;> split <;> (try omega) <;> split <;> omega
theorem ref_pp (a b : Int) (ha : 0 ≤ a) (hb : 0 < b) : rnd a b = (if b - a % b ≤ a % b then a / b + 1 else a / b) ∧ 0 ≤ a % b ∧ a % b < b ∧ 0 ≤ a / b ∧ a / b ≤ a := by
  obtain ⟨-, k1, k2, k3, -, k4, -⟩ := tdm a b hb
  obtain ⟨k5, -⟩ := tdiv_le a b hb
  rw [Int.tdiv_eq_ediv_of_nonneg ha, Int.tmod_eq_emod_of_nonneg ha] at *
  refine ⟨?_, k3 ha, k2, k4 ha, k5 ha⟩
  rw [rnd, if_neg (by omega), rnd_ref_pos a b ha hb]

/-! whole numbers -/
def floor (a : Int) : Int := if fits a then a - a % 65536 else 0
def ceiling (a : Int) : Int × Int := if fits a then within (a + 65535 - (a + 65535) % 65536) else (0, 11)
def round (a : Int) : Int × Int := if fits a then within (a + 32768 - (a + 32768) % 65536) else (0, 11)
def truncate (a : Int) : Int := if fits a then (if a < 0 then -(-a - -a % 65536) else a - a % 65536) else 0
def fromInt (n : Int) : Int × Int := if decide (n < -32768) || decide (32767 < n) then (0, 11) else (n * 65536, 0)

/-! roots -/
/-- the greatest root whose square is not above, bit by bit -/
def sqF : Nat → Int → Int → Int
  | 0, _, r => r
  | k + 1, n, r => if (r + 2 ^ k) * (r + 2 ^ k) ≤ n then sqF k n (r + 2 ^ k) else sqF k n r
def root (n : Int) : Int := sqF 25 n 0
def near (n r : Int) : Int := if r < n - r * r then r + 1 else r
def sqrt (a : Int) : Int × Int := if fits a && decide (0 ≤ a) then (near (a * 65536) (root (a * 65536)), 0) else (0, 11)

def Root (n r : Int) : Prop := 0 ≤ r ∧ r * r ≤ n ∧ n < (r + 1) * (r + 1)

theorem sq_lt {a b : Int} (ha : 0 ≤ a) (h : a < b) : a * a < b * b := by
  have h1 := Int.mul_le_mul_of_nonneg_left (show a ≤ b by omega) ha
  have h2 := Int.mul_lt_mul_of_pos_right h (show 0 < b by omega)
  omega
theorem Root.uniq {n r s : Int} (h : Root n r) (k : Root n s) : r = s := by
  obtain ⟨h1, h2, h3⟩ := h
  obtain ⟨k1, k2, k3⟩ := k
  by_cases c : r < s
  · have : (r + 1) * (r + 1) ≤ s * s := by
      by_cases e : r + 1 = s
      · rw [e]; exact Int.le_refl _
      · exact Int.le_of_lt (sq_lt (by omega) (by omega))
    omega
  · by_cases c2 : s < r
    · have : (s + 1) * (s + 1) ≤ r * r := by
        by_cases e : s + 1 = r
        · rw [e]; exact Int.le_refl _
        · exact Int.le_of_lt (sq_lt (by omega) (by omega))
      omega
    · omega
theorem pow_pos' (k : Nat) : (0 : Int) < 2 ^ k := Int.pow_pos (by decide)
theorem sqF_root (n : Int) : ∀ (k : Nat) (r : Int), 0 ≤ r → r * r ≤ n → n < (r + 2 ^ k) * (r + 2 ^ k) → Root n (sqF k n r)
  | 0, r, h1, h2, h3 => ⟨h1, h2, by simpa [sqF] using h3⟩
  | k + 1, r, h1, h2, h3 => by
    have hp := pow_pos' k
    unfold sqF
    split
    · rename_i hc
      refine sqF_root n k _ (by omega) hc ?_
      rw [Int.pow_succ] at h3
      have e : r + 2 ^ k * 2 = r + 2 ^ k + 2 ^ k := by omega
      rw [e] at h3
      exact h3
    · exact sqF_root n k r h1 h2 (by omega)
theorem root_root {n : Int} (h0 : 0 ≤ n) (h1 : n < 1125899906842624) : Root n (root n) :=
  sqF_root n 25 0 (by decide) (by simpa using h0) (by simpa using h1)
theorem Root.small {n r : Int} (h : Root n r) (h1 : n < 281474976710656) : r < 16777216 := by
  obtain ⟨h1, h2, h3⟩ := h
  by_cases c : r < 16777216
  · exact c
  · exfalso
    have : (16777216 : Int) * 16777216 ≤ r * r := by
      by_cases e : (16777216 : Int) = r
      · rw [← e]; exact Int.le_refl _
      · exact Int.le_of_lt (sq_lt (by decide) (by omega))
    omega

end Go.Proofs.YtpellcdggaeppaaGreatDoor.FixM
