/- FixRoots: for every integer the law returns true. No condition. -/
import Derived.Test.YtcldhlppnedcjaaLfixA
import Derived.Test.YtcldhlppnedcjaaFix2
import Derived.Test.YtcldhlppnedcjaaRfix2
namespace Go.Proofs.Ytcldhlppnedcjaa.fixRoots
open Go.ChangeShapes Go.WideShapes Go.ChangeAt Go.RowKit
open Go.Proofs.Ytcldhlppnedcjaa.FixM (fits within rnd rndp add sub mul div floor ceiling round truncate fromInt sqrt sqF root near Root)
set_option linter.unusedVariables false

theorem sq2 (r : Int) : (2 * r + 1) * (2 * r + 1) = 4 * (r * r) + 4 * r + 1 := by
  rw [Int.add_mul, Int.mul_add, Int.mul_assoc, Int.mul_left_comm r 2 r]; omega
theorem sq3 (r : Int) : (2 * r - 1) * (2 * r - 1) = 4 * (r * r) - 4 * r + 1 := by
  rw [Int.sub_mul, Int.mul_sub, Int.mul_assoc, Int.mul_left_comm r 2 r]; omega
theorem sq4 (r : Int) : (r + 1) * (r + 1) = r * r + 2 * r + 1 := by
  rw [Int.add_mul, Int.mul_add]; omega

/-- the root's square is as near as can be -/
theorem near_ok {n r : Int} (hn : n < 281474976710656) (h : Root n r) :
    0 ≤ near n r ∧ near n r ≤ 16777216 ∧ (near n r = 0 ∨ (2 * near n r - 1) * (2 * near n r - 1) ≤ 4 * n) ∧ 4 * n < (2 * near n r + 1) * (2 * near n r + 1) ∧ (2 * near n r + 1) * (2 * near n r + 1) ≤ 1125899973951489 ∧ 0 ≤ (2 * near n r - 1) * (2 * near n r - 1) ∧ (2 * near n r - 1) * (2 * near n r - 1) ≤ 1125899973951489 := by
  have hs := h.small hn
  obtain ⟨h1, h2, h3⟩ := h
  rw [sq4] at h3
  have e : ∀ x : Int, 0 ≤ x → x ≤ 16777216 → x * x ≤ 281474976710656 := by
    intro x hx hx2
    by_cases c : x = 16777216
    · rw [c]; decide
    · have := FixM.sq_lt (a := x) (b := 16777216) hx (by omega)
      omega
  unfold near
  split
  · rename_i hc
    have := e (r + 1) (by omega) (by omega)
    have hp : 0 ≤ (r + 1) * (r + 1) := Int.mul_nonneg (by omega) (by omega)
    have hq : 0 ≤ r * r := Int.mul_nonneg h1 h1
    refine ⟨by omega, by omega, .inr ?_, ?_, ?_, ?_, ?_⟩
    · rw [sq3, sq4]; omega
    · rw [sq2, sq4]; omega
    · rw [sq2]; omega
    · rw [sq3, sq4]; omega
    · rw [sq3]; omega
  · rename_i hc
    have := e r h1 (by omega)
    have hq : 0 ≤ r * r := Int.mul_nonneg h1 h1
    refine ⟨h1, by omega, ?_, ?_, ?_, ?_, ?_⟩
    · by_cases c : r = 0
      · exact .inl c
      · refine .inr ?_
        rw [sq3]; omega
    · rw [sq2]; omega
    · rw [sq2]; omega
    · rw [sq3]
      by_cases c : r = 0
      · rw [c]; decide
      · have := FixM.sq_lt (a := r - 1) (b := r) (by omega) (by omega)
        have e2 : (r - 1) * (r - 1) = r * r - 2 * r + 1 := by rw [Int.sub_mul, Int.mul_sub]; omega
        have hw : 0 ≤ (r - 1) * (r - 1) := Int.mul_nonneg (by omega) (by omega)
        omega
    · rw [sq3]; omega

set_option maxHeartbeats 400000 in
theorem core (a n : Int) (h : sqrt a = (n, 0)) (hf : fits a = true) (a0 : 0 ≤ a) (a1 : a ≤ 2147483647) (n0 : 0 ≤ n) (n1 : n ≤ 16777216) (k1 : (n == 0) = true ∨ ((n == 0) = false ∧ (2 * n - 1) * (2 * n - 1) ≤ 4 * a * 65536))
    (k2 : 4 * a * 65536 < (2 * n + 1) * (2 * n + 1)) (k3 : (2 * n + 1) * (2 * n + 1) ≤ 1125899973951489) (k4 : 0 ≤ (2 * n - 1) * (2 * n - 1)) (k5 : (2 * n - 1) * (2 * n - 1) ≤ 1125899973951489) (w : World) :
    Calls Try.prog 5 #[.int .i64 a] w fun e w' => e = .returned (.bool true) ∧ Up w w' := by
  have d1 : decide (0 ≤ n) = true := decide_eq_true n0
  rcases k1 with k1 | ⟨k1, k6⟩
  all_goals
    go_enter Try.func5, Try.ntmps5
    go_wp2_with (first
      | (go_at_call 17; ((with_reducible refine (Fix.sqrt_calls _ _).mono ?_); rintro e w' ⟨rfl, rfl⟩))
      | (go_at_call 18; ((with_reducible refine (Rfix.sqrt_calls _ _).mono ?_); rintro e w' ⟨rfl, rfl⟩))
      | (go_at_call 14; ((with_reducible refine (Lfix.answers_calls _).mono ?_); rintro e w' ⟨rfl, hu5⟩))
      | (go_at_call 15; ((with_reducible refine (Lfix.same_calls _ _ _).mono ?_); rintro e w' ⟨rfl, rfl⟩)))
    go_ret
    (first | exact ⟨rfl, by (repeat' (first | (with_reducible exact Up.refl _) | (with_reducible assumption) | (with_reducible refine Up.alloc ?_ _) | (with_reducible refine Up.drew ?_) | (with_reducible refine Up.drewN ?_ _) | (with_reducible refine Up.setCell ?_ ?_ _) | (with_reducible refine Up.call ?_ (by with_reducible assumption)) | go_size))⟩ | exact ⟨retb (decide_eq_true (by omega)), by (repeat' (first | (with_reducible exact Up.refl _) | (with_reducible assumption) | (with_reducible refine Up.alloc ?_ _) | (with_reducible refine Up.drew ?_) | (with_reducible refine Up.drewN ?_ _) | (with_reducible refine Up.setCell ?_ ?_ _) | (with_reducible refine Up.call ?_ (by with_reducible assumption)) | go_size))⟩)

theorem walk (a : Int) (w0 : (Lit.int .i64 a).wf = true) {w : World} :
    Calls Try.prog 5 #[.int .i64 a] w fun e w' => e = .returned (.bool true) ∧ Up w w' := by
  clear w0
  by_cases hf : fits a = true
  · by_cases hs : a < 0
    · have h : sqrt a = (0, 11) := by simp [sqrt, hf, Int.not_le.2 hs]
      have d1 : decide (a < 0) = true := decide_eq_true hs
      go_enter Try.func5, Try.ntmps5
      go_wp2_with (first
        | (go_at_call 17; ((with_reducible refine (Fix.sqrt_calls _ _).mono ?_); rintro e w' ⟨rfl, rfl⟩))
        | (go_at_call 18; ((with_reducible refine (Rfix.sqrt_calls _ _).mono ?_); rintro e w' ⟨rfl, rfl⟩))
        | (go_at_call 16; ((with_reducible refine (Rfix.fits_calls _ _).mono ?_); rintro e w' ⟨rfl, rfl⟩))
        | (go_at_call 14; ((with_reducible refine (Lfix.answers_calls _).mono ?_); rintro e w' ⟨rfl, hu5⟩))
        | (go_at_call 15; ((with_reducible refine (Lfix.same_calls _ _ _).mono ?_); rintro e w' ⟨rfl, rfl⟩)))
      go_ret
      exact ⟨rfl, by (repeat' (first | (with_reducible exact Up.refl _) | (with_reducible assumption) | (with_reducible refine Up.alloc ?_ _) | (with_reducible refine Up.drew ?_) | (with_reducible refine Up.drewN ?_ _) | (with_reducible refine Up.setCell ?_ ?_ _) | (with_reducible refine Up.call ?_ (by with_reducible assumption)) | go_size))⟩
    · obtain ⟨h1, h2⟩ := FixM.fits_iff.1 hf
      have hs' : 0 ≤ a := by omega
      have h : sqrt a = (near (a * 65536) (root (a * 65536)), 0) := by simp [sqrt, hf, hs']
      obtain ⟨k1, k2, k3, k4, k5, k6, k7⟩ := near_ok (by omega) (FixM.root_root (n := a * 65536) (by omega) (by omega))
      have e : 4 * a * 65536 = 4 * (a * 65536) := by omega
      refine core a _ h hf hs' h2 k1 k2 ?_ (by rw [e]; exact k4) k5 k6 k7 w
      rw [e]
      by_cases c : near (a * 65536) (root (a * 65536)) = 0
      · exact .inl (by simpa using c)
      · rcases k3 with k3 | k3
        · exact absurd k3 c
        · exact .inr ⟨by simpa using c, k3⟩
  · have hf : fits a = false := by simpa using hf
    have h : sqrt a = (0, 11) := by simp [sqrt, hf]
    go_enter Try.func5, Try.ntmps5
    go_wp2_with (first
      | (go_at_call 17; ((with_reducible refine (Fix.sqrt_calls _ _).mono ?_); rintro e w' ⟨rfl, rfl⟩))
      | (go_at_call 18; ((with_reducible refine (Rfix.sqrt_calls _ _).mono ?_); rintro e w' ⟨rfl, rfl⟩))
      | (go_at_call 16; ((with_reducible refine (Rfix.fits_calls _ _).mono ?_); rintro e w' ⟨rfl, rfl⟩))
      | (go_at_call 14; ((with_reducible refine (Lfix.answers_calls _).mono ?_); rintro e w' ⟨rfl, hu5⟩))
      | (go_at_call 15; ((with_reducible refine (Lfix.same_calls _ _ _).mono ?_); rintro e w' ⟨rfl, rfl⟩)))
    go_ret
    exact ⟨rfl, by (repeat' (first | (with_reducible exact Up.refl _) | (with_reducible assumption) | (with_reducible refine Up.alloc ?_ _) | (with_reducible refine Up.drew ?_) | (with_reducible refine Up.drewN ?_ _) | (with_reducible refine Up.setCell ?_ ?_ _) | (with_reducible refine Up.call ?_ (by with_reducible assumption)) | go_size))⟩

theorem own : ownKnob Try.prog.godebug = none := by kernel_rfl
theorem laidOut : laidOutB Try.prog = true := by kernel_rfl
set_option maxRecDepth 100000 in
theorem lifted (os : Os) (started : os.Started) (H : Type) (enc : TypeId × Value → H) :
    ReturnsInHanded {} Try.checked os 5 .any (Rows.fixRootsSpec.pre6 enc Try.prog Try.f5 Rows.fixRootsRow.domain false) (Rows.fixRootsSpec.post enc Try.prog Try.f5 false true false false) := by
  refine returnsInHanded_of_change (C := Try.checked) own started (by kernel_rfl) Try.func5
    (ChangeSpec.witness6 (enc := enc) (C := Try.checked) false ⟨#[], #[.int .i64 0], []⟩ 8 (by kernel_rfl) (by kernel_rfl) (by kernel_rfl) (by kernel_rfl)) ?_
  intro W base args ds gs before hval0 hW hcnd _
  have hval : ∀ (j : Nat) t v, Try.f5.params[j]? = some t → args[j]? = some v → Value.okWide Try.prog W .any base t v := hval0
  have hW' := hW
  obtain ⟨p, q, hA0, hV, rfl, hfz, hnd⟩ := hW
  have hA : DataW.TrodAll enc Try.prog W 0 (fun _ => true) true Try.f5.params.toList args.toList ds p := hA0
  rw [Try.params5] at hA hval
  obtain ⟨v0, vs0, d0, ds0, p0, q0, hargs, rfl, rfl, h0, r0⟩ := trodAll_cons hA
  obtain ⟨rfl, rfl, rfl⟩ := trodAll_nil r0
  obtain rfl : args = #[v0] := by cases args; simp_all
  obtain ⟨rfl, rfl⟩ := trodVars_none hV
  have k0 := h0
  have lt0 : ∀ x ∈ p0, x.block < W.heap.size := by obtain ⟨m, hm⟩ := k0; exact DataW.trod_lt m _ _ _ hm
  obtain ⟨a0, rfl, rfl, rfl, w0⟩ := open_int Try.underlying3 (hval 0 3 v0 rfl rfl) h0
  clear hA0 hval0
  refine (walk (w := W) a0 w0 ).mono fun e W' ⟨he, bel⟩ => ?_
  subst he
  exact ⟨_, rfl, _, _, _, [], _, [], hW', trodAll_mk1 (shut_bool Try.underlying4 _), (trodAll_cons_mk (Below.trod laidOut (by kernel_rfl) (of_decide_eq_true (by kernel_rfl)) k0 bel lt0) trodAll_mk0), rfl, bel.frame _, fun h => by cases h⟩

theorem over : Rows.fixRootsRow.holds Try.pinned (OpenSpec.ofChange Rows.fixRootsSpec) :=
  OpenClaim.holds_of_wide 5 Try.f5 rfl rfl rfl rfl rfl rfl rfl ⟨rfl, rfl, rfl, rfl, rfl⟩ rfl rfl rfl rfl rfl (by kernel_rfl) Try.func5 (by kernel_rfl)
    (of_decide_eq_true (by kernel_rfl)) (by unfold Func.isWrapper; first | (rw [if_pos (by decide +kernel)]; kernel_rfl) | (rw [if_neg (by decide +kernel)]; exact ⟨rfl, rfl⟩))
    (fun os started H enc _ => lifted os started H enc)

/-- THE STATEMENT -/
theorem proved : Rows.FixRootsSaid := over
#print axioms proved
end Go.Proofs.Ytcldhlppnedcjaa.fixRoots
