/- FixNear: for every two integers the law returns true. No condition. -/
import Derived.Test.YtcldhlppnedcjaaLfixA
import Derived.Test.YtcldhlppnedcjaaFix2
import Derived.Test.YtcldhlppnedcjaaRfix2
namespace Go.Proofs.Ytcldhlppnedcjaa.fixNear
open Go.ChangeShapes Go.WideShapes Go.ChangeAt Go.RowKit
open Go.Proofs.Ytcldhlppnedcjaa.FixM (fits within rnd rndp add sub mul div floor ceiling round truncate fromInt sqrt sqF root near Root)
set_option linter.unusedVariables false

theorem within_ok {n p : Int} (h : within n = (p, 0)) : p = n ∧ fits n = true := by
  unfold within at h
  split at h
  · rename_i hs; simp at h; exact ⟨h.symm, hs⟩
  · simp at h

theorem mul_near {a b p : Int} (ha : fits a = true) (hb : fits b = true) (h : mul a b = (p, 0)) :
    2 * (a * b - p * 65536) ≤ 65536 ∧ -65536 ≤ 2 * (a * b - p * 65536) ∧ (2 * (a * b - p * 65536) = 65536 → a * b < 0) ∧ (2 * (a * b - p * 65536) = -65536 → 0 < a * b) ∧ -2147483648 ≤ p ∧ p ≤ 2147483647 := by
  have h1 : mul a b = within (rnd (a * b) 65536) := by simp [mul, ha, hb]
  rw [h1] at h
  obtain ⟨rfl, hf⟩ := within_ok h
  have e : rnd (a * b) 65536 = rndp (a * b) 65536 := by rw [rnd, if_neg (by decide)]
  obtain ⟨k1, k2, k3, k4⟩ := FixM.rndp_near (a * b) 65536 (by decide)
  obtain ⟨k5, k6⟩ := FixM.fits_iff.1 hf
  rw [e] at *
  exact ⟨k1, k2, k3, k4, k5, k6⟩

theorem div_near {a b q : Int} (ha : fits a = true) (hb : fits b = true) (h : div a b = (q, 0)) :
    (b < 0 → 2 * (a * 65536 - q * b) ≤ -b ∧ b ≤ 2 * (a * 65536 - q * b)) ∧ (0 ≤ b → 2 * (a * 65536 - q * b) ≤ b ∧ -b ≤ 2 * (a * 65536 - q * b)) := by
  by_cases h0 : b = 0
  · subst h0
    simp [div, ha, hb] at h
  · have h1 : div a b = within (rnd (a * 65536) b) := by simp [div, ha, hb, h0]
    rw [h1] at h
    obtain ⟨rfl, hf⟩ := within_ok h
    by_cases hs : b < 0
    · obtain ⟨k1, k2, -⟩ := FixM.rndp_near (-(a * 65536)) (-b) (by omega)
      have e : rnd (a * 65536) b = rndp (-(a * 65536)) (-b) := by rw [rnd, if_pos hs]
      rw [e]
      rw [Int.mul_neg] at k1 k2
      exact ⟨fun _ => ⟨by omega, by omega⟩, fun _ => by omega⟩
    · obtain ⟨k1, k2, -⟩ := FixM.rndp_near (a * 65536) b (by omega)
      have e : rnd (a * 65536) b = rndp (a * 65536) b := by rw [rnd, if_neg hs]
      rw [e]
      exact ⟨fun _ => by omega, fun _ => ⟨by omega, by omega⟩⟩

set_option maxRecDepth 100000 in
set_option maxHeartbeats 1000000 in
theorem core (a b p e q g m k : Int) (hm : a * b = m) (hk : q * b = k) (ha : fits a = true) (hb : fits b = true) (h1 : mul a b = (p, e)) (h2 : div a b = (q, g)) (m1 : -4611686018427387904 ≤ m) (m2 : m ≤ 4611686018427387904)
    (a1 : -2147483648 ≤ a) (a2 : a ≤ 2147483647) (b1 : -2147483648 ≤ b) (b2 : b ≤ 2147483647)
    (d1 : (e == 0) = false ∨ ((e == 0) = true ∧ -2147483648 ≤ p ∧ p ≤ 2147483647 ∧ -65536 ≤ 2 * (m - p * 65536) ∧ 2 * (m - p * 65536) ≤ 65536 ∧ ((2 * (m - p * 65536) == 65536) = false ∨ ((2 * (m - p * 65536) == 65536) = true ∧ decide (0 < m) = false)) ∧ ((2 * (m - p * 65536) == -65536) = false ∨ ((2 * (m - p * 65536) == -65536) = true ∧ decide (m < 0) = false))))
    (d2 : (g == 0) = false ∨ ((g == 0) = true ∧ ((decide (b < 0) = true ∧ 2 * (a * 65536 - k) ≤ -b ∧ b ≤ 2 * (a * 65536 - k)) ∨ (decide (b < 0) = false ∧ 2 * (a * 65536 - k) ≤ b ∧ -b ≤ 2 * (a * 65536 - k))) ∧ (decide (2 * (a * 65536 - k) < 0) = true ∨ decide (2 * (a * 65536 - k) < 0) = false))) (w : World) :
    Calls Try.prog 4 #[.int .i64 a, .int .i64 b] w fun e w' => e = .returned (.bool true) ∧ Up w w' := by
  rcases d1 with e0 | ⟨e0, p1, p2, p3, p4, p5, p6⟩
  · rcases d2 with g0 | ⟨g0, q1, q2⟩
    · (go_enter Try.func4, Try.ntmps4; go_wp2_with (first | (go_at_call 16; ((with_reducible refine (Rfix.fits_calls _ _).mono ?_); rintro e w' ⟨rfl, rfl⟩)) | (go_at_call 10; ((with_reducible refine (Fix.mul_calls _ _ _).mono ?_); rintro e w' ⟨rfl, hu3⟩)) | (go_at_call 12; ((with_reducible refine (Fix.div_calls _ _ _).mono ?_); rintro e w' ⟨rfl, hu4⟩)) | (go_at_call 14; ((with_reducible refine (Lfix.answers_calls _).mono ?_); rintro e w' ⟨rfl, hu5⟩))); go_ret; (first | exact ⟨rfl, by (repeat' (first | (with_reducible exact Up.refl _) | (with_reducible assumption) | (with_reducible refine Up.alloc ?_ _) | (with_reducible refine Up.drew ?_) | (with_reducible refine Up.drewN ?_ _) | (with_reducible refine Up.setCell ?_ ?_ _) | (with_reducible refine Up.call ?_ (by with_reducible assumption)) | go_size))⟩ | exact ⟨retb (decide_eq_true (by omega)), by (repeat' (first | (with_reducible exact Up.refl _) | (with_reducible assumption) | (with_reducible refine Up.alloc ?_ _) | (with_reducible refine Up.drew ?_) | (with_reducible refine Up.drewN ?_ _) | (with_reducible refine Up.setCell ?_ ?_ _) | (with_reducible refine Up.call ?_ (by with_reducible assumption)) | go_size))⟩))
    · rcases q1 with ⟨q3, q4, q5⟩ | ⟨q3, q4, q5⟩ <;> rcases q2 with q6 | q6
      all_goals (go_enter Try.func4, Try.ntmps4; go_wp2_with (first | (go_at_call 16; ((with_reducible refine (Rfix.fits_calls _ _).mono ?_); rintro e w' ⟨rfl, rfl⟩)) | (go_at_call 10; ((with_reducible refine (Fix.mul_calls _ _ _).mono ?_); rintro e w' ⟨rfl, hu3⟩)) | (go_at_call 12; ((with_reducible refine (Fix.div_calls _ _ _).mono ?_); rintro e w' ⟨rfl, hu4⟩)) | (go_at_call 14; ((with_reducible refine (Lfix.answers_calls _).mono ?_); rintro e w' ⟨rfl, hu5⟩))); go_ret; (first | exact ⟨rfl, by (repeat' (first | (with_reducible exact Up.refl _) | (with_reducible assumption) | (with_reducible refine Up.alloc ?_ _) | (with_reducible refine Up.drew ?_) | (with_reducible refine Up.drewN ?_ _) | (with_reducible refine Up.setCell ?_ ?_ _) | (with_reducible refine Up.call ?_ (by with_reducible assumption)) | go_size))⟩ | exact ⟨retb (decide_eq_true (by omega)), by (repeat' (first | (with_reducible exact Up.refl _) | (with_reducible assumption) | (with_reducible refine Up.alloc ?_ _) | (with_reducible refine Up.drew ?_) | (with_reducible refine Up.drewN ?_ _) | (with_reducible refine Up.setCell ?_ ?_ _) | (with_reducible refine Up.call ?_ (by with_reducible assumption)) | go_size))⟩))
  · have t1 : decide (65536 < 2 * (m - p * 65536)) = false := decide_eq_false (by omega)
    have t2 : decide (2 * (m - p * 65536) < -65536) = false := decide_eq_false (by omega)
    rcases d2 with g0 | ⟨g0, q1, q2⟩
    · rcases p5 with p7 | ⟨p7, p8⟩ <;> rcases p6 with p9 | ⟨p9, p10⟩
      all_goals (go_enter Try.func4, Try.ntmps4; go_wp2_with (first | (go_at_call 16; ((with_reducible refine (Rfix.fits_calls _ _).mono ?_); rintro e w' ⟨rfl, rfl⟩)) | (go_at_call 10; ((with_reducible refine (Fix.mul_calls _ _ _).mono ?_); rintro e w' ⟨rfl, hu3⟩)) | (go_at_call 12; ((with_reducible refine (Fix.div_calls _ _ _).mono ?_); rintro e w' ⟨rfl, hu4⟩)) | (go_at_call 14; ((with_reducible refine (Lfix.answers_calls _).mono ?_); rintro e w' ⟨rfl, hu5⟩))); go_ret; (first | exact ⟨rfl, by (repeat' (first | (with_reducible exact Up.refl _) | (with_reducible assumption) | (with_reducible refine Up.alloc ?_ _) | (with_reducible refine Up.drew ?_) | (with_reducible refine Up.drewN ?_ _) | (with_reducible refine Up.setCell ?_ ?_ _) | (with_reducible refine Up.call ?_ (by with_reducible assumption)) | go_size))⟩ | exact ⟨retb (decide_eq_true (by omega)), by (repeat' (first | (with_reducible exact Up.refl _) | (with_reducible assumption) | (with_reducible refine Up.alloc ?_ _) | (with_reducible refine Up.drew ?_) | (with_reducible refine Up.drewN ?_ _) | (with_reducible refine Up.setCell ?_ ?_ _) | (with_reducible refine Up.call ?_ (by with_reducible assumption)) | go_size))⟩))
    · rcases q1 with ⟨q3, q4, q5⟩ | ⟨q3, q4, q5⟩ <;> rcases q2 with q6 | q6 <;> rcases p5 with p7 | ⟨p7, p8⟩ <;> rcases p6 with p9 | ⟨p9, p10⟩
      all_goals (go_enter Try.func4, Try.ntmps4; go_wp2_with (first | (go_at_call 16; ((with_reducible refine (Rfix.fits_calls _ _).mono ?_); rintro e w' ⟨rfl, rfl⟩)) | (go_at_call 10; ((with_reducible refine (Fix.mul_calls _ _ _).mono ?_); rintro e w' ⟨rfl, hu3⟩)) | (go_at_call 12; ((with_reducible refine (Fix.div_calls _ _ _).mono ?_); rintro e w' ⟨rfl, hu4⟩)) | (go_at_call 14; ((with_reducible refine (Lfix.answers_calls _).mono ?_); rintro e w' ⟨rfl, hu5⟩))); go_ret; (first | exact ⟨rfl, by (repeat' (first | (with_reducible exact Up.refl _) | (with_reducible assumption) | (with_reducible refine Up.alloc ?_ _) | (with_reducible refine Up.drew ?_) | (with_reducible refine Up.drewN ?_ _) | (with_reducible refine Up.setCell ?_ ?_ _) | (with_reducible refine Up.call ?_ (by with_reducible assumption)) | go_size))⟩ | exact ⟨retb (decide_eq_true (by omega)), by (repeat' (first | (with_reducible exact Up.refl _) | (with_reducible assumption) | (with_reducible refine Up.alloc ?_ _) | (with_reducible refine Up.drew ?_) | (with_reducible refine Up.drewN ?_ _) | (with_reducible refine Up.setCell ?_ ?_ _) | (with_reducible refine Up.call ?_ (by with_reducible assumption)) | go_size))⟩))

theorem walk (a b : Int) (w0 : (Lit.int .i64 a).wf = true) (w1 : (Lit.int .i64 b).wf = true) {w : World} :
    Calls Try.prog 4 #[.int .i64 a, .int .i64 b] w fun e w' => e = .returned (.bool true) ∧ Up w w' := by
  clear w0 w1
  by_cases ha : fits a = true
  · by_cases hb : fits b = true
    · obtain ⟨a1, a2⟩ := FixM.fits_iff.1 ha
      obtain ⟨b1, b2⟩ := FixM.fits_iff.1 hb
      obtain ⟨m1, m2⟩ := FixM.mul_bound ha hb
      obtain ⟨p, e, h1⟩ : ∃ s e, mul a b = (s, e) := ⟨_, _, rfl⟩
      obtain ⟨q, g, h2⟩ : ∃ s e, div a b = (s, e) := ⟨_, _, rfl⟩
      refine core a b p e q g _ _ rfl rfl ha hb h1 h2 m1 m2 a1 a2 b1 b2 ?_ ?_ w
      · by_cases he : e = 0
        · subst he
          obtain ⟨k1, k2, k3, k4, k5, k6⟩ := mul_near ha hb h1
          refine .inr ⟨rfl, k5, k6, k2, k1, ?_, ?_⟩
          · by_cases c : 2 * (a * b - p * 65536) = 65536
            · exact .inr ⟨by simpa using c, decide_eq_false (by have := k3 c; omega)⟩
            · exact .inl (by simpa using c)
          · by_cases c : 2 * (a * b - p * 65536) = -65536
            · exact .inr ⟨by simpa using c, decide_eq_false (by have := k4 c; omega)⟩
            · exact .inl (by simpa using c)
        · exact .inl (by simpa using he)
      · by_cases hg : g = 0
        · subst hg
          obtain ⟨k1, k2⟩ := div_near ha hb h2
          refine .inr ⟨rfl, ?_, ?_⟩
          · by_cases c : b < 0
            · exact .inl ⟨decide_eq_true c, k1 c⟩
            · exact .inr ⟨decide_eq_false c, k2 (by omega)⟩
          · by_cases c : 2 * (a * 65536 - q * b) < 0
            · exact .inl (decide_eq_true c)
            · exact .inr (decide_eq_false c)
        · exact .inl (by simpa using hg)
    · have hb : fits b = false := by simpa using hb
      go_enter Try.func4, Try.ntmps4
      go_wp2_with (first
        | (go_at_call 16; ((with_reducible refine (Rfix.fits_calls _ _).mono ?_); rintro e w' ⟨rfl, rfl⟩))
        | (go_at_call 14; ((with_reducible refine (Lfix.answers_calls _).mono ?_); rintro e w' ⟨rfl, hu5⟩)))
      go_ret
      exact ⟨rfl, by (repeat' (first | (with_reducible exact Up.refl _) | (with_reducible assumption) | (with_reducible refine Up.alloc ?_ _) | (with_reducible refine Up.drew ?_) | (with_reducible refine Up.drewN ?_ _) | (with_reducible refine Up.setCell ?_ ?_ _) | (with_reducible refine Up.call ?_ (by with_reducible assumption)) | go_size))⟩
  · have ha : fits a = false := by simpa using ha
    go_enter Try.func4, Try.ntmps4
    go_wp2_with (first
      | (go_at_call 16; ((with_reducible refine (Rfix.fits_calls _ _).mono ?_); rintro e w' ⟨rfl, rfl⟩))
      | (go_at_call 14; ((with_reducible refine (Lfix.answers_calls _).mono ?_); rintro e w' ⟨rfl, hu5⟩)))
    go_ret
    exact ⟨rfl, by (repeat' (first | (with_reducible exact Up.refl _) | (with_reducible assumption) | (with_reducible refine Up.alloc ?_ _) | (with_reducible refine Up.drew ?_) | (with_reducible refine Up.drewN ?_ _) | (with_reducible refine Up.setCell ?_ ?_ _) | (with_reducible refine Up.call ?_ (by with_reducible assumption)) | go_size))⟩

theorem own : ownKnob Try.prog.godebug = none := by kernel_rfl
theorem laidOut : laidOutB Try.prog = true := by kernel_rfl
set_option maxRecDepth 100000 in
theorem lifted (os : Os) (started : os.Started) (H : Type) (enc : TypeId × Value → H) :
    ReturnsInHanded {} Try.checked os 4 .any (Rows.fixNearSpec.pre6 enc Try.prog Try.f4 Rows.fixNearRow.domain false) (Rows.fixNearSpec.post enc Try.prog Try.f4 false true false false) := by
  refine returnsInHanded_of_change (C := Try.checked) own started (by kernel_rfl) Try.func4
    (ChangeSpec.witness6 (enc := enc) (C := Try.checked) false ⟨#[], #[.int .i64 0, .int .i64 0], []⟩ 8 (by kernel_rfl) (by kernel_rfl) (by kernel_rfl) (by kernel_rfl)) ?_
  intro W base args ds gs before hval0 hW hcnd _
  have hval : ∀ (j : Nat) t v, Try.f4.params[j]? = some t → args[j]? = some v → Value.okWide Try.prog W .any base t v := hval0
  have hW' := hW
  obtain ⟨p, q, hA0, hV, rfl, hfz, hnd⟩ := hW
  have hA : DataW.TrodAll enc Try.prog W 0 (fun _ => true) true Try.f4.params.toList args.toList ds p := hA0
  rw [Try.params4] at hA hval
  obtain ⟨v0, vs0, d0, ds0, p0, q0, hargs, rfl, rfl, h0, r0⟩ := trodAll_cons hA
  obtain ⟨v1, vs1, d1, ds1, p1, q1, rfl, rfl, rfl, h1, r1⟩ := trodAll_cons r0
  obtain ⟨rfl, rfl, rfl⟩ := trodAll_nil r1
  obtain rfl : args = #[v0, v1] := by cases args; simp_all
  obtain ⟨rfl, rfl⟩ := trodVars_none hV
  have k0 := h0
  have lt0 : ∀ x ∈ p0, x.block < W.heap.size := by obtain ⟨m, hm⟩ := k0; exact DataW.trod_lt m _ _ _ hm
  have k1 := h1
  have lt1 : ∀ x ∈ p1, x.block < W.heap.size := by obtain ⟨m, hm⟩ := k1; exact DataW.trod_lt m _ _ _ hm
  obtain ⟨a0, rfl, rfl, rfl, w0⟩ := open_int Try.underlying3 (hval 0 3 v0 rfl rfl) h0
  obtain ⟨a1, rfl, rfl, rfl, w1⟩ := open_int Try.underlying3 (hval 1 3 v1 rfl rfl) h1
  clear hA0 hval0
  refine (walk (w := W) a0 a1 w0 w1 ).mono fun e W' ⟨he, bel⟩ => ?_
  subst he
  exact ⟨_, rfl, _, _, _, [], _, [], hW', trodAll_mk1 (shut_bool Try.underlying4 _), (trodAll_cons_mk (Below.trod laidOut (by kernel_rfl) (of_decide_eq_true (by kernel_rfl)) k0 bel lt0) (trodAll_cons_mk (Below.trod laidOut (by kernel_rfl) (of_decide_eq_true (by kernel_rfl)) k1 bel lt1) trodAll_mk0)), rfl, bel.frame _, fun h => by cases h⟩

theorem over : Rows.fixNearRow.holds Try.pinned (OpenSpec.ofChange Rows.fixNearSpec) :=
  OpenClaim.holds_of_wide 4 Try.f4 rfl rfl rfl rfl rfl rfl rfl ⟨rfl, rfl, rfl, rfl, rfl⟩ rfl rfl rfl rfl rfl (by kernel_rfl) Try.func4 (by kernel_rfl)
    (of_decide_eq_true (by kernel_rfl)) (by unfold Func.isWrapper; first | (rw [if_pos (by decide +kernel)]; kernel_rfl) | (rw [if_neg (by decide +kernel)]; exact ⟨rfl, rfl⟩))
    (fun os started H enc _ => lifted os started H enc)

/-- THE STATEMENT -/
theorem proved : Rows.FixNearSaid := over
#print axioms proved
end Go.Proofs.Ytcldhlppnedcjaa.fixNear
