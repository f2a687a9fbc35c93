/- FixBetween: for every integer of 32 bits the law returns true. No condition. -/
import Derived.Test.YtcldhlppnedcjaaLfixA
import Derived.Test.YtcldhlppnedcjaaFix2
import Derived.Test.YtcldhlppnedcjaaRfix2
namespace Go.Proofs.Ytcldhlppnedcjaa.fixBetween
open Go.ChangeShapes Go.WideShapes Go.ChangeAt Go.RowKit
open Go.Proofs.Ytcldhlppnedcjaa.FixM (fits within rnd rndp add sub mul div floor ceiling round truncate fromInt sqrt sqF root near Root)
set_option linter.unusedVariables false

/-- what the four functions give, as the law's tests ask it -/
structure Facts (n low high e near f t : Int) : Prop where
  b1 : -2147483648 ≤ n
  b2 : n ≤ 2147483647
  fl : floor n = low
  ce : ceiling n = (high, e)
  ro : round n = (near, f)
  tr : truncate n = t
  l1 : low ≤ n
  l2 : n - low < 65536
  l3 : low.tmod 65536 = 0
  t1 : t.tmod 65536 = 0
  t2 : t < 0 → n ≤ t
  t3 : 0 < t → t ≤ n
  c1 : e = 0 → n ≤ high ∧ high - low ≤ 65536 ∧ high.tmod 65536 = 0
  r1 : f = 0 → (near = low ∧ n - low < 32768) ∨ (near = low + 65536 ∧ 32768 ≤ n - low)

theorem tm (q : Int) : (q * 65536).tmod 65536 = 0 := Int.mul_tmod_left _ _

theorem facts (n : Int) (b1 : -2147483648 ≤ n) (b2 : n ≤ 2147483647) : ∃ low high e near f t, Facts n low high e near f t := by
  have hf := FixM.fits_true b1 b2
  have hw : ∀ x, within x = (x, 0) ∨ within x = (0, 18) := fun x => by unfold within; split <;> simp
  have fl : floor n = n - n % 65536 := by simp [floor, hf]
  have ce : ceiling n = within (n + 65535 - (n + 65535) % 65536) := by simp [ceiling, hf]
  have ro : round n = within (n + 32768 - (n + 32768) % 65536) := by simp [round, hf]
  have e0 : n - n % 65536 = n / 65536 * 65536 := by omega
  have e1 : n + 65535 - (n + 65535) % 65536 = (n + 65535) / 65536 * 65536 := by omega
  refine ⟨_, (ceiling n).1, (ceiling n).2, (round n).1, (round n).2, truncate n, b1, b2, fl, rfl, rfl, rfl, by omega, by omega, by rw [e0]; exact tm _, ?_, ?_, ?_, ?_, ?_⟩
  · unfold truncate
    rw [if_pos hf]
    split
    · rw [show -(-n - -n % 65536) = -(-n / 65536) * 65536 by omega]; exact tm _
    · rw [e0]; exact tm _
  · intro h
    unfold truncate at *
    rw [if_pos hf] at *
    split at h <;> split <;> omega
  · intro h
    unfold truncate at *
    rw [if_pos hf] at *
    split at h <;> split <;> omega
  · rw [ce]
    intro h
    rcases hw (n + 65535 - (n + 65535) % 65536) with k | k
    · rw [k]
      refine ⟨?_, ?_, ?_⟩
      · show n ≤ n + 65535 - (n + 65535) % 65536
        omega
      · show n + 65535 - (n + 65535) % 65536 - (n - n % 65536) ≤ 65536
        omega
      · show (n + 65535 - (n + 65535) % 65536).tmod 65536 = 0
        rw [e1]; exact tm _
    · rw [k] at h
      exact absurd h (by decide)
  · rw [ro]
    intro h
    rcases hw (n + 32768 - (n + 32768) % 65536) with k | k
    · rw [k]
      by_cases c : n - (n - n % 65536) < 32768
      · refine .inl ⟨?_, c⟩
        show n + 32768 - (n + 32768) % 65536 = n - n % 65536
        omega
      · refine .inr ⟨?_, by omega⟩
        show n + 32768 - (n + 32768) % 65536 = n - n % 65536 + 65536
        omega
    · rw [k] at h
      exact absurd h (by decide)

set_option maxRecDepth 100000 in
set_option maxHeartbeats 1000000 in
theorem core (n low high e near f t : Int) (F : Hid (Facts n low high e near f t)) (d1 : decide (t < 0) = true ∧ decide (t < n) = false ∧ decide (0 < t) = false ∨ decide (t < 0) = false ∧ decide (0 < t) = true ∧ decide (n < t) = false ∨ decide (t < 0) = false ∧ decide (0 < t) = false)
    (d2 : ((e == 0) = true ∧ decide (high < n) = false ∧ decide (65536 < high - low) = false ∧ (high.tmod 65536 != 0) = false ∧ high - low ≤ 65536 ∧ 0 ≤ high - low) ∨ (e == 0) = false)
    (d3 : (f != 0) = true ∨ ((f != 0) = false ∧ (near == low) = true ∧ decide (n - low < 32768) = true) ∨ ((f != 0) = false ∧ (near == low) = false ∧ (near == low + 65536) = true ∧ decide (32768 ≤ n - low) = true)) (w : World) :
    Calls Try.prog 8 #[.int .i32 n] w fun e w' => e = .returned (.bool true) ∧ Up w w' := by
  have b1 := F.out.b1
  have b2 := F.out.b2
  have fl := F.out.fl
  have ce := F.out.ce
  have ro := F.out.ro
  have tr := F.out.tr
  have l1 := F.out.l1
  have l2 := F.out.l2
  have k1 : decide (n < low) = false := decide_eq_false (by omega)
  have k2 : decide (65536 ≤ n - low) = false := decide_eq_false (by omega)
  have k3 : (low.tmod 65536 != 0) = false := by rw [bne_eq_false_iff_eq]; exact F.out.l3
  have k4 : (t.tmod 65536 != 0) = false := by rw [bne_eq_false_iff_eq]; exact F.out.t1
  clear F
  rcases d1 with ⟨a1, a2, a3⟩ | ⟨a1, a2, a3⟩ | ⟨a1, a2⟩ <;> rcases d2 with ⟨c1, c2, c3, c4, c5, c6⟩ | c1 <;> rcases d3 with g1 | ⟨g1, g2, g3⟩ | ⟨g1, g2, g3, g4⟩
  all_goals
    go_enter Try.func8, Try.ntmps8
    go_wp2_with (first
      | (go_at_call 26; ((with_reducible refine (Fix.ceiling_calls _ _).mono ?_); rintro e w' ⟨rfl, rfl⟩))
      | (go_at_call 27; ((with_reducible refine (Fix.round_calls _ _).mono ?_); rintro e w' ⟨rfl, rfl⟩))
      | (go_at_call 25; ((with_reducible refine (Fix.floor_calls _ _).mono ?_); rintro e w' ⟨rfl, rfl⟩))
      | (go_at_call 28; ((with_reducible refine (Fix.truncate_calls _ _).mono ?_); rintro e w' ⟨rfl, rfl⟩))
      | (go_at_call 14; ((with_reducible refine (Lfix.answers_calls _).mono ?_); rintro e w' ⟨rfl, hu5⟩)))
    go_ret
    exact ⟨rfl, by (repeat' (first | (with_reducible exact Up.refl _) | (with_reducible assumption) | (with_reducible refine Up.alloc ?_ _) | (with_reducible refine Up.drew ?_) | (with_reducible refine Up.drewN ?_ _) | (with_reducible refine Up.setCell ?_ ?_ _) | (with_reducible refine Up.call ?_ (by with_reducible assumption)) | go_size))⟩

theorem walk (n : Int) (w0 : (Lit.int .i32 n).wf = true) {w : World} :
    Calls Try.prog 8 #[.int .i32 n] w fun e w' => e = .returned (.bool true) ∧ Up w w' := by
  obtain ⟨b1, b2⟩ := bounds_i32 w0
  obtain ⟨low, high, e, near, f, t, F⟩ := facts n b1 b2
  refine core n low high e near f t (Lib.hid F) ?_ ?_ ?_ w
  · by_cases h : t < 0
    · have := F.t2 h
      exact .inl ⟨decide_eq_true h, decide_eq_false (by omega), decide_eq_false (by omega)⟩
    · by_cases h2 : 0 < t
      · have := F.t3 h2
        exact .inr (.inl ⟨decide_eq_false h, decide_eq_true h2, decide_eq_false (by omega)⟩)
      · exact .inr (.inr ⟨decide_eq_false h, decide_eq_false h2⟩)
  · by_cases h : e = 0
    · obtain ⟨c1, c2, c3⟩ := F.c1 h
      have := F.l1
      exact .inl ⟨by simp [h], decide_eq_false (by omega), decide_eq_false (by omega), by rw [bne_eq_false_iff_eq]; exact c3, by omega, by omega⟩
    · exact .inr (by simp [h])
  · by_cases h : f = 0
    · rcases F.r1 h with ⟨r1, r2⟩ | ⟨r1, r2⟩
      · exact .inr (.inl ⟨by simp [h], by simp [r1], decide_eq_true r2⟩)
      · exact .inr (.inr ⟨by simp [h], by rw [beq_eq_false_iff_ne]; omega, by simp [r1], decide_eq_true r2⟩)
    · exact .inl (by simp [h])

theorem own : ownKnob Try.prog.godebug = none := by kernel_rfl
theorem laidOut : laidOutB Try.prog = true := by kernel_rfl
set_option maxRecDepth 100000 in
theorem lifted (os : Os) (started : os.Started) (H : Type) (enc : TypeId × Value → H) :
    ReturnsInHanded {} Try.checked os 8 .any (Rows.fixBetweenSpec.pre6 enc Try.prog Try.f8 Rows.fixBetweenRow.domain false) (Rows.fixBetweenSpec.post enc Try.prog Try.f8 false true false false) := by
  refine returnsInHanded_of_change (C := Try.checked) own started (by kernel_rfl) Try.func8
    (ChangeSpec.witness6 (enc := enc) (C := Try.checked) false ⟨#[], #[.int .i32 0], []⟩ 8 (by kernel_rfl) (by kernel_rfl) (by kernel_rfl) (by kernel_rfl)) ?_
  intro W base args ds gs before hval0 hW hcnd _
  have hval : ∀ (j : Nat) t v, Try.f8.params[j]? = some t → args[j]? = some v → Value.okWide Try.prog W .any base t v := hval0
  have hW' := hW
  obtain ⟨p, q, hA0, hV, rfl, hfz, hnd⟩ := hW
  have hA : DataW.TrodAll enc Try.prog W 0 (fun _ => true) true Try.f8.params.toList args.toList ds p := hA0
  rw [Try.params8] at hA hval
  obtain ⟨v0, vs0, d0, ds0, p0, q0, hargs, rfl, rfl, h0, r0⟩ := trodAll_cons hA
  obtain ⟨rfl, rfl, rfl⟩ := trodAll_nil r0
  obtain rfl : args = #[v0] := by cases args; simp_all
  obtain ⟨rfl, rfl⟩ := trodVars_none hV
  have k0 := h0
  have lt0 : ∀ x ∈ p0, x.block < W.heap.size := by obtain ⟨m, hm⟩ := k0; exact DataW.trod_lt m _ _ _ hm
  obtain ⟨a0, rfl, rfl, rfl, w0⟩ := open_int Try.underlying21 (hval 0 21 v0 rfl rfl) h0
  clear hA0 hval0
  refine (walk (w := W) a0 w0 ).mono fun e W' ⟨he, bel⟩ => ?_
  subst he
  exact ⟨_, rfl, _, _, _, [], _, [], hW', trodAll_mk1 (shut_bool Try.underlying4 _), (trodAll_cons_mk (Below.trod laidOut (by kernel_rfl) (of_decide_eq_true (by kernel_rfl)) k0 bel lt0) trodAll_mk0), rfl, bel.frame _, fun h => by cases h⟩

theorem over : Rows.fixBetweenRow.holds Try.pinned (OpenSpec.ofChange Rows.fixBetweenSpec) :=
  OpenClaim.holds_of_wide 8 Try.f8 rfl rfl rfl rfl rfl rfl rfl ⟨rfl, rfl, rfl, rfl, rfl⟩ rfl rfl rfl rfl rfl (by kernel_rfl) Try.func8 (by kernel_rfl)
    (of_decide_eq_true (by kernel_rfl)) (by unfold Func.isWrapper; first | (rw [if_pos (by decide +kernel)]; kernel_rfl) | (rw [if_neg (by decide +kernel)]; exact ⟨rfl, rfl⟩))
    (fun os started H enc _ => lifted os started H enc)

/-- THE STATEMENT -/
theorem proved : Rows.FixBetweenSaid := over
#print axioms proved
end Go.Proofs.Ytcldhlppnedcjaa.fixBetween
