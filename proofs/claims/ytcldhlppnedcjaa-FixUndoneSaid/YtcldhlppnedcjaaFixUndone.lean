/- FixUndone: for every two integers of 32 bits the law returns true. No condition. -/
import Derived.Test.YtcldhlppnedcjaaLfixA
import Derived.Test.YtcldhlppnedcjaaFix2
import Derived.Test.YtcldhlppnedcjaaRfix2
namespace Go.Proofs.Ytcldhlppnedcjaa.fixUndone
open Go.ChangeShapes Go.WideShapes Go.ChangeAt Go.RowKit
open Go.Proofs.Ytcldhlppnedcjaa.FixM (fits within rnd rndp add sub mul div floor ceiling round truncate fromInt sqrt sqF root near Root)
set_option linter.unusedVariables false

theorem mul_one' {x : Int} (h : fits x = true) : mul x 65536 = (x, 0) := by
  have h2 : fits 65536 = true := by decide
  have h3 : rnd (x * 65536) 65536 = x := by
    rw [rnd, if_neg (by decide)]; exact FixM.rndp_exact x 65536 (by decide)
  simp [mul, within, h, h2, h3]
theorem div_one' {x : Int} (h : fits x = true) : div x 65536 = (x, 0) := by
  have h2 : fits 65536 = true := by decide
  have h3 : rnd (x * 65536) 65536 = x := by
    rw [rnd, if_neg (by decide)]; exact FixM.rndp_exact x 65536 (by decide)
  simp [div, within, h, h2, h3]
theorem sub_add {x y s : Int} (hx : fits x = true) (hy : fits y = true) (h : add x y = (s, 0)) : sub s y = (x, 0) := by
  have h1 : add x y = within (x + y) := by simp [add, hx, hy]
  rw [h1] at h
  unfold within at h
  split at h
  · rename_i hs
    simp at h
    subst h
    have e : x + y - y = x := by omega
    simp [sub, within, hs, hy, hx, e]
  · simp at h

theorem walk (x y : Int) (w0 : (Lit.int .i32 x).wf = true) (w1 : (Lit.int .i32 y).wf = true) {w : World} :
    Calls Try.prog 6 #[.int .i32 x, .int .i32 y] w fun e w' => e = .returned (.bool true) ∧ Up w w' := by
  obtain ⟨b1, b2⟩ := bounds_i32 w0
  obtain ⟨b3, b4⟩ := bounds_i32 w1
  clear w0 w1
  have hx := FixM.fits_true b1 b2
  have hy := FixM.fits_true b3 b4
  have m1 := mul_one' hx
  have m2 := div_one' hx
  obtain ⟨s, e, hs⟩ : ∃ s e, add x y = (s, e) := ⟨_, _, rfl⟩
  have hs2 : add y x = (s, e) := by rw [FixM.add_comm', hs]
  obtain ⟨u, j, hu⟩ : ∃ s e, mul x y = (s, e) := ⟨_, _, rfl⟩
  have hu2 : mul y x = (u, j) := by rw [FixM.mul_comm', hu]
  by_cases he : e = 0
  · subst he
    have hd := sub_add hx hy hs
    clear hx hy
    go_enter Try.func6, Try.ntmps6
    go_wp2_with (first
      | (go_at_call 19; ((with_reducible refine (Fix.add_calls _ _ _).mono ?_); rintro e w' ⟨rfl, hu1⟩))
      | (go_at_call 20; ((with_reducible refine (Fix.sub_calls _ _ _).mono ?_); rintro e w' ⟨rfl, hu2⟩))
      | (go_at_call 10; ((with_reducible refine (Fix.mul_calls _ _ _).mono ?_); rintro e w' ⟨rfl, hu3⟩))
      | (go_at_call 12; ((with_reducible refine (Fix.div_calls _ _ _).mono ?_); rintro e w' ⟨rfl, hu4⟩))
      | (go_at_call 14; ((with_reducible refine (Lfix.answers_calls _).mono ?_); rintro e w' ⟨rfl, hu5⟩)))
    go_ret
    exact ⟨rfl, by (repeat' (first | (with_reducible exact Up.refl _) | (with_reducible assumption) | (with_reducible refine Up.alloc ?_ _) | (with_reducible refine Up.drew ?_) | (with_reducible refine Up.drewN ?_ _) | (with_reducible refine Up.setCell ?_ ?_ _) | (with_reducible refine Up.call ?_ (by with_reducible assumption)) | go_size))⟩
  · have he' : (e == 0) = false := by simpa using he
    clear hx hy he
    go_enter Try.func6, Try.ntmps6
    go_wp2_with (first
      | (go_at_call 19; ((with_reducible refine (Fix.add_calls _ _ _).mono ?_); rintro e w' ⟨rfl, hu1⟩))
      | (go_at_call 10; ((with_reducible refine (Fix.mul_calls _ _ _).mono ?_); rintro e w' ⟨rfl, hu3⟩))
      | (go_at_call 12; ((with_reducible refine (Fix.div_calls _ _ _).mono ?_); rintro e w' ⟨rfl, hu4⟩))
      | (go_at_call 14; ((with_reducible refine (Lfix.answers_calls _).mono ?_); rintro e w' ⟨rfl, hu5⟩)))
    go_ret
    exact ⟨rfl, by (repeat' (first | (with_reducible exact Up.refl _) | (with_reducible assumption) | (with_reducible refine Up.alloc ?_ _) | (with_reducible refine Up.drew ?_) | (with_reducible refine Up.drewN ?_ _) | (with_reducible refine Up.setCell ?_ ?_ _) | (with_reducible refine Up.call ?_ (by with_reducible assumption)) | go_size))⟩

theorem own : ownKnob Try.prog.godebug = none := by kernel_rfl
theorem laidOut : laidOutB Try.prog = true := by kernel_rfl
set_option maxRecDepth 100000 in
theorem lifted (os : Os) (started : os.Started) (H : Type) (enc : TypeId × Value → H) :
    ReturnsInHanded {} Try.checked os 6 .any (Rows.fixUndoneSpec.pre6 enc Try.prog Try.f6 Rows.fixUndoneRow.domain false) (Rows.fixUndoneSpec.post enc Try.prog Try.f6 false true false false) := by
  refine returnsInHanded_of_change (C := Try.checked) own started (by kernel_rfl) Try.func6
    (ChangeSpec.witness6 (enc := enc) (C := Try.checked) false ⟨#[], #[.int .i32 0, .int .i32 0], []⟩ 8 (by kernel_rfl) (by kernel_rfl) (by kernel_rfl) (by kernel_rfl)) ?_
  intro W base args ds gs before hval0 hW hcnd _
  have hval : ∀ (j : Nat) t v, Try.f6.params[j]? = some t → args[j]? = some v → Value.okWide Try.prog W .any base t v := hval0
  have hW' := hW
  obtain ⟨p, q, hA0, hV, rfl, hfz, hnd⟩ := hW
  have hA : DataW.TrodAll enc Try.prog W 0 (fun _ => true) true Try.f6.params.toList args.toList ds p := hA0
  rw [Try.params6] at hA hval
  obtain ⟨v0, vs0, d0, ds0, p0, q0, hargs, rfl, rfl, h0, r0⟩ := trodAll_cons hA
  obtain ⟨v1, vs1, d1, ds1, p1, q1, rfl, rfl, rfl, h1, r1⟩ := trodAll_cons r0
  obtain ⟨rfl, rfl, rfl⟩ := trodAll_nil r1
  obtain rfl : args = #[v0, v1] := by cases args; simp_all
  obtain ⟨rfl, rfl⟩ := trodVars_none hV
  have k0 := h0
  have lt0 : ∀ x ∈ p0, x.block < W.heap.size := by obtain ⟨m, hm⟩ := k0; exact DataW.trod_lt m _ _ _ hm
  have k1 := h1
  have lt1 : ∀ x ∈ p1, x.block < W.heap.size := by obtain ⟨m, hm⟩ := k1; exact DataW.trod_lt m _ _ _ hm
  obtain ⟨a0, rfl, rfl, rfl, w0⟩ := open_int Try.underlying21 (hval 0 21 v0 rfl rfl) h0
  obtain ⟨a1, rfl, rfl, rfl, w1⟩ := open_int Try.underlying21 (hval 1 21 v1 rfl rfl) h1
  clear hA0 hval0
  refine (walk (w := W) a0 a1 w0 w1 ).mono fun e W' ⟨he, bel⟩ => ?_
  subst he
  exact ⟨_, rfl, _, _, _, [], _, [], hW', trodAll_mk1 (shut_bool Try.underlying4 _), (trodAll_cons_mk (Below.trod laidOut (by kernel_rfl) (of_decide_eq_true (by kernel_rfl)) k0 bel lt0) (trodAll_cons_mk (Below.trod laidOut (by kernel_rfl) (of_decide_eq_true (by kernel_rfl)) k1 bel lt1) trodAll_mk0)), rfl, bel.frame _, fun h => by cases h⟩

theorem over : Rows.fixUndoneRow.holds Try.pinned (OpenSpec.ofChange Rows.fixUndoneSpec) :=
  OpenClaim.holds_of_wide 6 Try.f6 rfl rfl rfl rfl rfl rfl rfl ⟨rfl, rfl, rfl, rfl, rfl⟩ rfl rfl rfl rfl rfl (by kernel_rfl) Try.func6 (by kernel_rfl)
    (of_decide_eq_true (by kernel_rfl)) (by unfold Func.isWrapper; first | (rw [if_pos (by decide +kernel)]; kernel_rfl) | (rw [if_neg (by decide +kernel)]; exact ⟨rfl, rfl⟩))
    (fun os started H enc _ => lifted os started H enc)

/-- THE STATEMENT -/
theorem proved : Rows.FixUndoneSaid := over
#print axioms proved
end Go.Proofs.Ytcldhlppnedcjaa.fixUndone
