/- Whole numbers that are not too great: two matrices, one behind the other, lead as one and then the other; what leads back leads back. In plain integers; no program in sight. -/
import Derived.Test.YtonmakmnencihaaMatLaw
namespace Go.Proofs.Ytonmakmnencihaa.MatM
open Go.Proofs.Ytonmakmnencihaa.FixM

set_option linter.unusedSimpArgs false

/-- small: its product with 65536 is a number here -/
def sm (B n : Int) : Prop := -B ≤ n ∧ n ≤ B
theorem sm_fits {n : Int} (h : sm 30000 n) : fits (n * 65536) = true := by
  obtain ⟨h1, h2⟩ := h
  exact fits_true (by omega) (by omega)
theorem sm_mul {A B a b : Int} (ha : sm A a) (hb : sm B b) : sm (A * B) (a * b) := by
  obtain ⟨a0, a1⟩ := ha
  obtain ⟨b0, b1⟩ := hb
  have h1 := Int.mul_nonneg (show 0 ≤ a + A by omega) (show 0 ≤ b + B by omega)
  have h2 := Int.mul_nonneg (show 0 ≤ A - a by omega) (show 0 ≤ B - b by omega)
  have h3 := Int.mul_nonneg (show 0 ≤ a + A by omega) (show 0 ≤ B - b by omega)
  have h4 := Int.mul_nonneg (show 0 ≤ A - a by omega) (show 0 ≤ b + B by omega)
  simp only [Int.add_mul, Int.mul_add, Int.sub_mul, Int.mul_sub] at h1 h2 h3 h4
  exact ⟨by omega, by omega⟩
theorem sm_le {A B a : Int} (h : sm A a) (hb : A ≤ B) : sm B a := ⟨by have := h.1; omega, by have := h.2; omega⟩
theorem sm_add {A B a b : Int} (ha : sm A a) (hb : sm B b) : sm (A + B) (a + b) := ⟨by have := ha.1; have := hb.1; omega, by have := ha.2; have := hb.2; omega⟩
theorem sm_neg {A a : Int} (h : sm A a) : sm A (-a) := ⟨by have := h.2; omega, by have := h.1; omega⟩

theorem mul_sm {a b : Int} (ha : sm 30000 a) (hb : sm 30000 b) (h : sm 30000 (a * b)) : mul (a * 65536) (b * 65536) = (a * b * 65536, 0) := by
  have e : a * 65536 * b = a * b * 65536 := by rw [Int.mul_assoc, Int.mul_comm 65536 b, ← Int.mul_assoc]
  rw [mul_whole (sm_fits ha) (sm_fits hb) (by rw [e]; exact sm_fits h), e]

theorem apply_sm {m0 m1 m2 m3 m4 m5 x y : Int} (h0 : sm 50 m0) (h1 : sm 50 m1) (h2 : sm 50 m2) (h3 : sm 50 m3) (h4 : sm 50 m4) (h5 : sm 50 m5) (hx : sm 200 x) (hy : sm 200 y) :
    apply (m0 * 65536) (m1 * 65536) (m2 * 65536) (m3 * 65536) (m4 * 65536) (m5 * 65536) (x * 65536) (y * 65536) = (((m0 * x + m2 * y + m4) * 65536, (m1 * x + m3 * y + m5) * 65536), 0) := by
  have w : ∀ {B n : Int}, sm B n → B ≤ 30000 → sm 30000 n := fun h hb => sm_le h hb
  have p0 := sm_mul h0 hx
  have p1 := sm_mul h1 hx
  have p2 := sm_mul h2 hy
  have p3 := sm_mul h3 hy
  have s0 := sm_add p0 p2
  have s1 := sm_add p1 p3
  have t0 := sm_add s0 h4
  have t1 := sm_add s1 h5
  have := apply_known (m4 := m4 * 65536) (m5 := m5 * 65536) (mul_sm (w h0 (by decide)) (w hx (by decide)) (w p0 (by decide))) (mul_sm (w h2 (by decide)) (w hy (by decide)) (w p2 (by decide))) (mul_sm (w h1 (by decide)) (w hx (by decide)) (w p1 (by decide))) (mul_sm (w h3 (by decide)) (w hy (by decide)) (w p3 (by decide)))
    (sm_fits (w p0 (by decide))) (sm_fits (w p2 (by decide))) (sm_fits (w p1 (by decide))) (sm_fits (w p3 (by decide))) (by rw [← Int.add_mul]; exact sm_fits (w s0 (by decide))) (by rw [← Int.add_mul]; exact sm_fits (w s1 (by decide)))
    (sm_fits (w h4 (by decide))) (sm_fits (w h5 (by decide))) (by rw [← Int.add_mul, ← Int.add_mul]; exact sm_fits (w t0 (by decide))) (by rw [← Int.add_mul, ← Int.add_mul]; exact sm_fits (w t1 (by decide)))
  rw [this]
  simp only [Int.add_mul]
theorem delta_sm {m0 m1 m2 m3 x y : Int} (h0 : sm 50 m0) (h1 : sm 50 m1) (h2 : sm 50 m2) (h3 : sm 50 m3) (hx : sm 200 x) (hy : sm 200 y) :
    delta (m0 * 65536) (m1 * 65536) (m2 * 65536) (m3 * 65536) (x * 65536) (y * 65536) = (((m0 * x + m2 * y) * 65536, (m1 * x + m3 * y) * 65536), 0) := by
  have w : ∀ {B n : Int}, sm B n → B ≤ 30000 → sm 30000 n := fun h hb => sm_le h hb
  have p0 := sm_mul h0 hx
  have p1 := sm_mul h1 hx
  have p2 := sm_mul h2 hy
  have p3 := sm_mul h3 hy
  have s0 := sm_add p0 p2
  have s1 := sm_add p1 p3
  have := delta_known (mul_sm (w h0 (by decide)) (w hx (by decide)) (w p0 (by decide))) (mul_sm (w h2 (by decide)) (w hy (by decide)) (w p2 (by decide))) (mul_sm (w h1 (by decide)) (w hx (by decide)) (w p1 (by decide))) (mul_sm (w h3 (by decide)) (w hy (by decide)) (w p3 (by decide)))
    (sm_fits (w p0 (by decide))) (sm_fits (w p2 (by decide))) (sm_fits (w p1 (by decide))) (sm_fits (w p3 (by decide))) (by rw [← Int.add_mul]; exact sm_fits (w s0 (by decide))) (by rw [← Int.add_mul]; exact sm_fits (w s1 (by decide)))
  rw [this]
  simp only [Int.add_mul]

/-- two matrices, one behind the other -/
theorem whole1 (m0 m1 m2 m3 m4 m5 n0 n1 n2 n3 n4 n5 x y : Int) (a0 : sm 3 m0) (a1 : sm 3 m1) (a2 : sm 3 m2) (a3 : sm 3 m3) (a4 : sm 3 m4) (a5 : sm 3 m5)
    (b0 : sm 3 n0) (b1 : sm 3 n1) (b2 : sm 3 n2) (b3 : sm 3 n3) (b4 : sm 3 n4) (b5 : sm 3 n5) (hx : sm 19 x) (hy : sm 19 y) :
    ∃ c0 c1 c2 c3 c4 c5 s0 s1 r0 r1 : Int, concat ⟨m0 * 65536, m1 * 65536, m2 * 65536, m3 * 65536, m4 * 65536, m5 * 65536⟩ ⟨n0 * 65536, n1 * 65536, n2 * 65536, n3 * 65536, n4 * 65536, n5 * 65536⟩ = (⟨c0, c1, c2, c3, c4, c5⟩, 0) ∧
      apply (m0 * 65536) (m1 * 65536) (m2 * 65536) (m3 * 65536) (m4 * 65536) (m5 * 65536) (x * 65536) (y * 65536) = ((s0, s1), 0) ∧
      apply (n0 * 65536) (n1 * 65536) (n2 * 65536) (n3 * 65536) (n4 * 65536) (n5 * 65536) s0 s1 = ((r0, r1), 0) ∧
      apply c0 c1 c2 c3 c4 c5 (x * 65536) (y * 65536) = ((r0, r1), 0) ∧ fits c4 = true ∧ fits c5 = true := by
  have u : ∀ {B n : Int}, sm B n → B ≤ 200 → sm 200 n := fun h hb => sm_le h hb
  have v : ∀ {B n : Int}, sm B n → B ≤ 50 → sm 50 n := fun h hb => sm_le h hb
  have d : (3 : Int) ≤ 50 := by decide
  have e : (3 : Int) ≤ 200 := by decide
  have c0 := sm_add (sm_mul b0 a0) (sm_mul b2 a1)
  have c1 := sm_add (sm_mul b1 a0) (sm_mul b3 a1)
  have c2 := sm_add (sm_mul b0 a2) (sm_mul b2 a3)
  have c3 := sm_add (sm_mul b1 a2) (sm_mul b3 a3)
  have c4 := sm_add (sm_add (sm_mul b0 a4) (sm_mul b2 a5)) b4
  have c5 := sm_add (sm_add (sm_mul b1 a4) (sm_mul b3 a5)) b5
  have s0 := sm_add (sm_add (sm_mul a0 hx) (sm_mul a2 hy)) a4
  have s1 := sm_add (sm_add (sm_mul a1 hx) (sm_mul a3 hy)) a5
  refine ⟨(n0 * m0 + n2 * m1) * 65536, (n1 * m0 + n3 * m1) * 65536, (n0 * m2 + n2 * m3) * 65536, (n1 * m2 + n3 * m3) * 65536, (n0 * m4 + n2 * m5 + n4) * 65536, (n1 * m4 + n3 * m5 + n5) * 65536, _, _, _, _, ?_, apply_sm (v a0 d) (v a1 d) (v a2 d) (v a3 d) (v a4 d) (v a5 d) (u hx (by decide)) (u hy (by decide)),
    apply_sm (v b0 d) (v b1 d) (v b2 d) (v b3 d) (v b4 d) (v b5 d) (u s0 (by decide)) (u s1 (by decide)), ?_, ?_, ?_⟩
  · unfold concat
    simp only [delta_sm (v b0 d) (v b1 d) (v b2 d) (v b3 d) (u a0 e) (u a1 e), delta_sm (v b0 d) (v b1 d) (v b2 d) (v b3 d) (u a2 e) (u a3 e), apply_sm (v b0 d) (v b1 d) (v b2 d) (v b3 d) (v b4 d) (v b5 d) (u a4 e) (u a5 e), if_true]
  · rw [apply_sm (v c0 (by decide)) (v c1 (by decide)) (v c2 (by decide)) (v c3 (by decide)) (v c4 (by decide)) (v c5 (by decide)) (u hx (by decide)) (u hy (by decide))]
    congr 2
    · congr 1
      simp only [Int.mul_add, Int.add_mul, Int.mul_assoc]
      omega
    · congr 1
      simp only [Int.mul_add, Int.add_mul, Int.mul_assoc]
      omega
  · exact sm_fits (sm_le c4 (by decide))
  · exact sm_fits (sm_le c5 (by decide))

theorem div_one {a : Int} (h : fits a = true) : div a 65536 = (a, 0) := by
  unfold div
  rw [h, fits1, rnd_exact, within_ok h]
  rfl
theorem sub_ok {a b : Int} (ha : fits a = true) (hb : fits b = true) (h : fits (a - b) = true) : sub a b = (a - b, 0) := by simp [sub, ha, hb, within_ok h]

/-- what leads back -/
theorem whole2 (k m4 m5 x y : Int) (hk : sm 8 k) (a4 : sm 3 m4) (a5 : sm 3 m5) (hx : sm 19 x) (hy : sm 19 y) :
    ∃ v0 v1 v2 v3 v4 v5 t0 t1 : Int, invert ⟨65536, k * 65536, 0, 65536, m4 * 65536, m5 * 65536⟩ = (⟨v0, v1, v2, v3, v4, v5⟩, 0) ∧
      apply 65536 (k * 65536) 0 65536 (m4 * 65536) (m5 * 65536) (x * 65536) (y * 65536) = ((t0, t1), 0) ∧ apply v0 v1 v2 v3 v4 v5 t0 t1 = ((x * 65536, y * 65536), 0) ∧
      scale 65536 (k * 65536) 0 65536 = (65536, 0) ∧ fits v4 = true ∧ fits v5 = true := by
  have u : ∀ {B n : Int}, sm B n → B ≤ 200 → sm 200 n := fun h hb => sm_le h hb
  have v : ∀ {B n : Int}, sm B n → B ≤ 50 → sm 50 n := fun h hb => sm_le h hb
  have o : sm 1 1 := ⟨by decide, by decide⟩
  have z : sm 1 0 := ⟨by decide, by decide⟩
  have t0 := sm_add (sm_add (sm_mul o hx) (sm_mul z hy)) a4
  have t1 := sm_add (sm_add (sm_mul hk hx) (sm_mul o hy)) a5
  have v5 := sm_add (sm_mul hk a4) (sm_neg a5)
  have fk : fits (k * 65536) = true := sm_fits (sm_le hk (by decide))
  have f4 : fits (m4 * 65536) = true := sm_fits (sm_le a4 (by decide))
  have f5 : fits (m5 * 65536) = true := sm_fits (sm_le a5 (by decide))
  have g : ∀ n : Int, 0 - n * 65536 = -n * 65536 := fun n => by omega
  have hD : det 0 65536 (k * 65536) 0 65536 = (65536, 0) := by
    unfold det
    rw [mul_one fits1, mul_zero' fk]
    decide
  have e1 : apply 65536 (k * 65536) 0 65536 (m4 * 65536) (m5 * 65536) (x * 65536) (y * 65536) = (((1 * x + 0 * y + m4) * 65536, (k * x + 1 * y + m5) * 65536), 0) := by
    have := apply_sm (v o (by decide)) (v hk (by decide)) (v z (by decide)) (v o (by decide)) (v a4 (by decide)) (v a5 (by decide)) (u hx (by decide)) (u hy (by decide))
    simpa using this
  refine ⟨1 * 65536, -k * 65536, 0 * 65536, 1 * 65536, -m4 * 65536, (k * m4 + -m5) * 65536, _, _, ?_, e1, ?_, ?_, sm_fits (sm_le (sm_neg a4) (by decide)), sm_fits (sm_le v5 (by decide))⟩
  · have p1 : mul 0 (m5 * 65536) = (0, 0) := zero_mul' f5
    have p2 : mul 65536 (m4 * 65536) = (m4 * 65536, 0) := one_mul' f4
    have p3 : mul (k * 65536) (m4 * 65536) = (k * m4 * 65536, 0) := mul_sm (sm_le hk (by decide)) (sm_le a4 (by decide)) (sm_le (sm_mul hk a4) (by decide))
    have p4 : mul 65536 (m5 * 65536) = (m5 * 65536, 0) := one_mul' f5
    have q1 : sub 0 (m4 * 65536) = (-m4 * 65536, 0) := by rw [sub_ok fits0 f4 (by rw [g]; exact sm_fits (sm_le (sm_neg a4) (by decide))), g]
    have q2 : sub (k * m4 * 65536) (m5 * 65536) = ((k * m4 + -m5) * 65536, 0) := by
      have e : k * m4 * 65536 - m5 * 65536 = (k * m4 + -m5) * 65536 := by omega
      rw [sub_ok (sm_fits (sm_le (sm_mul hk a4) (by decide))) f5 (by rw [e]; exact sm_fits (sm_le v5 (by decide))), e]
    have q3 : sub 0 (k * 65536) = (-k * 65536, 0) := by rw [sub_ok fits0 fk (by rw [g]; exact sm_fits (sm_le (sm_neg hk) (by decide))), g]
    have q4 : sub 0 0 = (0, 0) := by decide
    have r1 := div_one fits1
    have r2 := div_one (sm_fits (sm_le (sm_neg hk) (by decide)) : fits (-k * 65536) = true)
    have r3 := div_one fits0
    have r4 := div_one (sm_fits (sm_le (sm_neg a4) (by decide)) : fits (-m4 * 65536) = true)
    have r5 := div_one (sm_fits (sm_le v5 (by decide)) : fits ((k * m4 + -m5) * 65536) = true)
    unfold invert
    simp only [hD, if_true]
    rw [if_neg (by decide)]
    simp only [quots, p1, p2, p3, p4, q1, q2, q3, q4, r1, r2, r3, r4, r5, keep0, if_true]
    simp
  · have := apply_sm (v o (by decide)) (v (sm_neg hk) (by decide)) (v z (by decide)) (v o (by decide)) (v (sm_neg a4) (by decide)) (v v5 (by decide)) (u t0 (by decide)) (u t1 (by decide))
    rw [this]
    congr 2
    · congr 1
      simp only [Int.mul_add, Int.add_mul, Int.mul_assoc, Int.neg_mul, Int.one_mul, Int.zero_mul]
      omega
    · congr 1
      simp only [Int.mul_add, Int.add_mul, Int.mul_assoc, Int.neg_mul, Int.one_mul, Int.zero_mul]
      omega
  · unfold scale
    simp only [hD, if_true]
    rw [if_neg (by decide)]
    decide +kernel

end Go.Proofs.Ytonmakmnencihaa.MatM
