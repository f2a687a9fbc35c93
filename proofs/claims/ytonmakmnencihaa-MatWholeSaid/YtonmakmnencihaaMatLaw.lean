/- What moves, what stretches and what changes nothing does just that. In plain integers; no program in sight; no condition. -/
import Derived.Test.YtonmakmnencihaaMatM2
namespace Go.Proofs.Ytonmakmnencihaa.MatM
open Go.Proofs.Ytonmakmnencihaa.FixM

theorem small_mul {a b : Int} (a0 : -32768 ≤ a) (a1 : a ≤ 32767) (b0 : -32768 ≤ b) (b1 : b ≤ 32767) : -1073741824 ≤ a * b ∧ a * b ≤ 1073741824 := by
  have h1 := Int.mul_nonneg (show 0 ≤ a + 32768 by omega) (show 0 ≤ b + 32768 by omega)
  have h2 := Int.mul_nonneg (show 0 ≤ 32768 - a by omega) (show 0 ≤ 32768 - b by omega)
  have h3 := Int.mul_nonneg (show 0 ≤ a + 32768 by omega) (show 0 ≤ 32768 - b by omega)
  have h4 := Int.mul_nonneg (show 0 ≤ 32768 - a by omega) (show 0 ≤ b + 32768 by omega)
  simp only [Int.add_mul, Int.mul_add, Int.sub_mul, Int.mul_sub] at h1 h2 h3 h4
  constructor <;> omega
theorem fits0 : fits 0 = true := by decide
theorem fits1 : fits 65536 = true := by decide
theorem rnd_exact (q : Int) : rnd (q * 65536) 65536 = q := by
  unfold rnd
  rw [if_neg (by decide)]
  exact rndp_exact q 65536 (by decide)
theorem within_ok {n : Int} (h : fits n = true) : within n = (n, 0) := by simp [within, h]
/-- a product with a whole number -/
theorem mul_whole {a p : Int} (ha : fits a = true) (hp : fits (p * 65536) = true) (h : fits (a * p) = true) : mul a (p * 65536) = (a * p, 0) := by
  unfold mul
  rw [ha, hp, ← Int.mul_assoc, rnd_exact, within_ok h]
  rfl
theorem mul_one {a : Int} (h : fits a = true) : mul a 65536 = (a, 0) := by
  have := mul_whole (a := a) (p := 1) h (by decide) (by simpa using h)
  simpa using this
theorem one_mul' {a : Int} (h : fits a = true) : mul 65536 a = (a, 0) := by rw [mul_comm', mul_one h]
theorem mul_zero' {a : Int} (h : fits a = true) : mul a 0 = (0, 0) := by
  have := mul_whole (a := a) (p := 0) h (by decide) (by simp [fits0])
  simpa using this
theorem zero_mul' {a : Int} (h : fits a = true) : mul 0 a = (0, 0) := by rw [mul_comm', mul_zero' h]
theorem add_ok {a b : Int} (ha : fits a = true) (hb : fits b = true) (h : fits (a + b) = true) : add a b = (a + b, 0) := by simp [add, ha, hb, within_ok h]
theorem add_zero' {a : Int} (h : fits a = true) : add a 0 = (a, 0) := by
  have := add_ok h fits0 (by simpa using h)
  simpa using this
theorem keep00 : keep 0 0 = 0 := rfl

/-- two products that are known -/
theorem two_known {e a x c y p q : Int} (more : List Int) (h1 : mul a x = (p, 0)) (h2 : mul c y = (q, 0)) :
    two e a x c y more = ((sum (p :: q :: more)).1, keep e (sum (p :: q :: more)).2) := by
  unfold two
  rw [h1, h2]
  show (_, keep (keep (keep e 0) 0) _) = _
  rw [keep_assoc e, keep00, keep_assoc, keep0]
theorem two2_known {e a x c y p q : Int} (h1 : mul a x = (p, 0)) (h2 : mul c y = (q, 0)) (hp : fits p = true) (hq : fits q = true) (h : fits (p + q) = true) : two e a x c y [] = (p + q, e) := by
  rw [two_known [] h1 h2, sum2 hp, add_ok hp hq h]
  unfold keep
  split <;> simp_all
theorem two3_known {e a x c y p q l : Int} (h1 : mul a x = (p, 0)) (h2 : mul c y = (q, 0)) (hp : fits p = true) (hq : fits q = true) (h : fits (p + q) = true) :
    two e a x c y [l] = ((add (p + q) l).1, keep e (add (p + q) l).2) := by
  rw [two_known [l] h1 h2, sum3 hp, add_ok hp hq h, if_pos rfl]

theorem delta_known {m0 m1 m2 m3 x y p q r s : Int} (h1 : mul m0 x = (p, 0)) (h2 : mul m2 y = (q, 0)) (h3 : mul m1 x = (r, 0)) (h4 : mul m3 y = (s, 0))
    (hp : fits p = true) (hq : fits q = true) (hr : fits r = true) (hs : fits s = true) (ha : fits (p + q) = true) (hb : fits (r + s) = true) : delta m0 m1 m2 m3 x y = ((p + q, r + s), 0) := by
  unfold delta
  simp only []
  rw [two2_known h1 h2 hp hq ha, two2_known h3 h4 hr hs hb]
  rfl
theorem apply_known {m0 m1 m2 m3 m4 m5 x y p q r s : Int} (h1 : mul m0 x = (p, 0)) (h2 : mul m2 y = (q, 0)) (h3 : mul m1 x = (r, 0)) (h4 : mul m3 y = (s, 0))
    (hp : fits p = true) (hq : fits q = true) (hr : fits r = true) (hs : fits s = true) (ha : fits (p + q) = true) (hb : fits (r + s) = true)
    (h5 : fits m4 = true) (h6 : fits m5 = true) (hc : fits (p + q + m4) = true) (hd : fits (r + s + m5) = true) : apply m0 m1 m2 m3 m4 m5 x y = ((p + q + m4, r + s + m5), 0) := by
  unfold apply
  simp only []
  rw [two3_known h1 h2 hp hq ha, two3_known h3 h4 hr hs hb, add_ok ha h5 hc, add_ok hb h6 hd]
  rfl

theorem delta_one {x y : Int} (hx : fits x = true) (hy : fits y = true) : delta 65536 0 0 65536 x y = ((x, y), 0) := by
  have := delta_known (one_mul' hx) (zero_mul' hy) (zero_mul' hx) (one_mul' hy) hx fits0 fits0 hy (by simpa using hx) (by simpa using hy)
  simpa using this
theorem apply_move {m4 m5 x y : Int} (hx : fits x = true) (hy : fits y = true) (h4 : fits m4 = true) (h5 : fits m5 = true) (hc : fits (x + m4) = true) (hd : fits (y + m5) = true) :
    apply 65536 0 0 65536 m4 m5 x y = ((x + m4, y + m5), 0) := by
  have := apply_known (one_mul' hx) (zero_mul' hy) (zero_mul' hx) (one_mul' hy) hx fits0 fits0 hy (by simpa using hx) (by simpa using hy) h4 h5 (by simpa using hc) (by simpa using hd)
  simpa using this
theorem apply_stretch {a b p q : Int} (ha : fits a = true) (hb : fits b = true) (hp : fits (p * 65536) = true) (hq : fits (q * 65536) = true) (hc : fits (a * p) = true) (hd : fits (b * q) = true) :
    apply a 0 0 b 0 0 (p * 65536) (q * 65536) = ((a * p, b * q), 0) := by
  have := apply_known (mul_whole ha hp hc) (zero_mul' hq) (zero_mul' hp) (mul_whole hb hq hd) hc fits0 fits0 hd (by simpa using hc) (by simpa using hd) fits0 fits0 (by simpa using hc) (by simpa using hd)
  simpa using this
/-- what changes nothing, behind a matrix -/
theorem concat_one {a b c d x y : Int} (h0 : fits a = true) (h1 : fits b = true) (h2 : fits c = true) (h3 : fits d = true) (h4 : fits x = true) (h5 : fits y = true) :
    concat ⟨a, b, c, d, x, y⟩ ⟨65536, 0, 0, 65536, 0, 0⟩ = (⟨a, b, c, d, x, y⟩, 0) := by
  unfold concat
  simp only [delta_one h0 h1, delta_one h2 h3, apply_move h4 h5 fits0 fits0 (by simpa using h4) (by simpa using h5), if_true, Int.add_zero]
/-- and ahead of it -/
theorem one_concat {a b c d x y : Int} (h0 : fits a = true) (h1 : fits b = true) (h2 : fits c = true) (h3 : fits d = true) (h4 : fits x = true) (h5 : fits y = true) :
    concat ⟨65536, 0, 0, 65536, 0, 0⟩ ⟨a, b, c, d, x, y⟩ = (⟨a, b, c, d, x, y⟩, 0) := by
  have e1 : delta a b c d 65536 0 = ((a, b), 0) := by
    have := delta_known (mul_one h0) (mul_zero' h2) (mul_one h1) (mul_zero' h3) h0 fits0 h1 fits0 (by simpa using h0) (by simpa using h1)
    simpa using this
  have e2 : delta a b c d 0 65536 = ((c, d), 0) := by
    have := delta_known (mul_zero' h0) (mul_one h2) (mul_zero' h1) (mul_one h3) fits0 h2 fits0 h3 (by simpa using h2) (by simpa using h3)
    simpa using this
  have e3 : apply a b c d x y 0 0 = ((x, y), 0) := by
    have := apply_known (mul_zero' h0) (mul_zero' h2) (mul_zero' h1) (mul_zero' h3) fits0 fits0 fits0 fits0 (by decide) (by decide) h4 h5 (by simpa using h4) (by simpa using h5)
    simpa using this
  unfold concat
  simp only [e1, e2, e3, if_true]

end Go.Proofs.Ytonmakmnencihaa.MatM
