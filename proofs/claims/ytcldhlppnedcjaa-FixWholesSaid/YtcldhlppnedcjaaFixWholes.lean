/- FixWholes: for every integer the law returns true. No condition. -/
import Derived.Test.YtcldhlppnedcjaaLfixA
import Derived.Test.YtcldhlppnedcjaaFix2
import Derived.Test.YtcldhlppnedcjaaRfix2
namespace Go.Proofs.Ytcldhlppnedcjaa.fixWholes
open Go.ChangeShapes Go.WideShapes Go.ChangeAt Go.RowKit
open Go.Proofs.Ytcldhlppnedcjaa.FixM (fits within rnd rndp add sub mul div floor ceiling round truncate fromInt sqrt sqF root near Root)
set_option linter.unusedVariables false

theorem walk (a : Int) (w0 : (Lit.int .i64 a).wf = true) {w : World} :
    Calls Try.prog 9 #[.int .i64 a] w fun e w' => e = .returned (.bool true) ∧ Up w w' := by
  clear w0
  go_enter Try.func9, Try.ntmps9
  go_wp2_with (first
    | (go_at_call 26; ((with_reducible refine (Fix.ceiling_calls _ _).mono ?_); rintro e w' ⟨rfl, rfl⟩))
    | (go_at_call 29; ((with_reducible refine (Rfix.ceiling_calls _ _).mono ?_); rintro e w' ⟨rfl, rfl⟩))
    | (go_at_call 27; ((with_reducible refine (Fix.round_calls _ _).mono ?_); rintro e w' ⟨rfl, rfl⟩))
    | (go_at_call 30; ((with_reducible refine (Rfix.round_calls _ _).mono ?_); rintro e w' ⟨rfl, rfl⟩))
    | (go_at_call 31; ((with_reducible refine (Fix.fromInt_calls _ _).mono ?_); rintro e w' ⟨rfl, rfl⟩))
    | (go_at_call 32; ((with_reducible refine (Rfix.fromInt_calls _ _).mono ?_); rintro e w' ⟨rfl, rfl⟩))
    | (go_at_call 25; ((with_reducible refine (Fix.floor_calls _ _).mono ?_); rintro e w' ⟨rfl, rfl⟩))
    | (go_at_call 33; ((with_reducible refine (Rfix.floor_calls _ _).mono ?_); rintro e w' ⟨rfl, rfl⟩))
    | (go_at_call 28; ((with_reducible refine (Fix.truncate_calls _ _).mono ?_); rintro e w' ⟨rfl, rfl⟩))
    | (go_at_call 34; ((with_reducible refine (Rfix.truncate_calls _ _).mono ?_); rintro e w' ⟨rfl, rfl⟩))
    | (go_at_call 14; ((with_reducible refine (Lfix.answers_calls _).mono ?_); rintro e w' ⟨rfl, hu5⟩))
    | (go_at_call 15; ((with_reducible refine (Lfix.same_calls _ _ _).mono ?_); rintro e w' ⟨rfl, rfl⟩)))
  go_ret
  exact ⟨rfl, by (repeat' (first | (with_reducible exact Up.refl _) | (with_reducible assumption) | (with_reducible refine Up.alloc ?_ _) | (with_reducible refine Up.drew ?_) | (with_reducible refine Up.drewN ?_ _) | (with_reducible refine Up.setCell ?_ ?_ _) | (with_reducible refine Up.call ?_ (by with_reducible assumption)) | go_size))⟩

theorem own : ownKnob Try.prog.godebug = none := by kernel_rfl
theorem laidOut : laidOutB Try.prog = true := by kernel_rfl
set_option maxRecDepth 100000 in
theorem lifted (os : Os) (started : os.Started) (H : Type) (enc : TypeId × Value → H) :
    ReturnsInHanded {} Try.checked os 9 .any (Rows.fixWholesSpec.pre6 enc Try.prog Try.f9 Rows.fixWholesRow.domain false) (Rows.fixWholesSpec.post enc Try.prog Try.f9 false true false false) := by
  refine returnsInHanded_of_change (C := Try.checked) own started (by kernel_rfl) Try.func9
    (ChangeSpec.witness6 (enc := enc) (C := Try.checked) false ⟨#[], #[.int .i64 0], []⟩ 8 (by kernel_rfl) (by kernel_rfl) (by kernel_rfl) (by kernel_rfl)) ?_
  intro W base args ds gs before hval0 hW hcnd _
  have hval : ∀ (j : Nat) t v, Try.f9.params[j]? = some t → args[j]? = some v → Value.okWide Try.prog W .any base t v := hval0
  have hW' := hW
  obtain ⟨p, q, hA0, hV, rfl, hfz, hnd⟩ := hW
  have hA : DataW.TrodAll enc Try.prog W 0 (fun _ => true) true Try.f9.params.toList args.toList ds p := hA0
  rw [Try.params9] at hA hval
  obtain ⟨v0, vs0, d0, ds0, p0, q0, hargs, rfl, rfl, h0, r0⟩ := trodAll_cons hA
  obtain ⟨rfl, rfl, rfl⟩ := trodAll_nil r0
  obtain rfl : args = #[v0] := by cases args; simp_all
  obtain ⟨rfl, rfl⟩ := trodVars_none hV
  have k0 := h0
  have lt0 : ∀ x ∈ p0, x.block < W.heap.size := by obtain ⟨m, hm⟩ := k0; exact DataW.trod_lt m _ _ _ hm
  obtain ⟨a0, rfl, rfl, rfl, w0⟩ := open_int Try.underlying3 (hval 0 3 v0 rfl rfl) h0
  clear hA0 hval0
  refine (walk (w := W) a0 w0 ).mono fun e W' ⟨he, bel⟩ => ?_
  subst he
  exact ⟨_, rfl, _, _, _, [], _, [], hW', trodAll_mk1 (shut_bool Try.underlying4 _), (trodAll_cons_mk (Below.trod laidOut (by kernel_rfl) (of_decide_eq_true (by kernel_rfl)) k0 bel lt0) trodAll_mk0), rfl, bel.frame _, fun h => by cases h⟩

theorem over : Rows.fixWholesRow.holds Try.pinned (OpenSpec.ofChange Rows.fixWholesSpec) :=
  OpenClaim.holds_of_wide 9 Try.f9 rfl rfl rfl rfl rfl rfl rfl ⟨rfl, rfl, rfl, rfl, rfl⟩ rfl rfl rfl rfl rfl (by kernel_rfl) Try.func9 (by kernel_rfl)
    (of_decide_eq_true (by kernel_rfl)) (by unfold Func.isWrapper; first | (rw [if_pos (by decide +kernel)]; kernel_rfl) | (rw [if_neg (by decide +kernel)]; exact ⟨rfl, rfl⟩))
    (fun os started H enc _ => lifted os started H enc)

/-- THE STATEMENT -/
theorem proved : Rows.FixWholesSaid := over
#print axioms proved
end Go.Proofs.Ytcldhlppnedcjaa.fixWholes
