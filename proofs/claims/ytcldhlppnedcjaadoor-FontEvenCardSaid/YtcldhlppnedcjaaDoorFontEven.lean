/- FontEven: for every two letters the law returns true. Its card lists the package-level variable font.names as the program's text lays it. No other condition. -/
import Derived.Test.YtcldhlppnedcjaaDoorFontL
namespace Go.Proofs.YtcldhlppnedcjaaDoor.fontEven
open Go.ChangeShapes Go.WideShapes Go.ChangeAt Go.RowKit
open Go.Proofs.YtcldhlppnedcjaaDoor.FontM Go.Proofs.YtcldhlppnedcjaaDoor.Font
set_option linter.unusedVariables false

theorem tab_even : (List.range 2).all (fun i => tab i == tab (i + 2) && tab (4 + i) == tab (6 + i)) = true := by decide +kernel
theorem width_of_tab {i j : Int} (c : Int) (hi : 0 ≤ i) (hj : 0 ≤ j) (hi2 : i < 13) (hj2 : j < 13) (h : tab i = tab j) : width i c = width j c := by
  have h1 : inside i c = inside j c := by simp [inside, hi, hj, show i < 14 by omega, show j < 14 by omega]
  unfold width
  rw [h1, h, if_neg (show ¬ i = 13 by omega), if_neg (show ¬ j = 13 by omega)]
theorem even (c : Int) (k : Nat) (h : k < 2) : width k c = width (k + 2) c ∧ width (4 + k) c = width (6 + k) c := by
  have h1 := tab_even
  rw [List.all_eq_true] at h1
  have h2 := h1 k (List.mem_range.2 h)
  simp only [Bool.and_eq_true, beq_iff_eq] at h2
  exact ⟨width_of_tab c (by omega) (by omega) (by omega) (by omega) h2.1, width_of_tab c (by omega) (by omega) (by omega) (by omega) h2.2⟩
theorem evens (c d : Int) (hc : 32 ≤ c) (hc2 : c ≤ 126) (hd : 32 ≤ d) (hd2 : d ≤ 126) : width 0 c = 600 ∧ width 3 d = 600 := by
  have t0 : tab 0 = [] := by decide
  have t3 : tab 3 = [] := by decide
  have i0 : inside 0 c = true := by simp [inside, hc, hc2]
  have i3 : inside 3 d = true := by simp [inside, hd, hd2]
  unfold width
  rw [i0, i3, t0, t3]
  exact ⟨rfl, rfl⟩

set_option maxHeartbeats 400000 in
theorem walk {w : World} (c d : Int) (w0 : (Lit.int .u8 c).wf = true) (w1 : (Lit.int .u8 d).wf = true) (hT : Tab w) :
    Calls Tryd.prog 4 #[.int .u8 c, .int .u8 d] w fun e w' => e = .returned (.bool true) ∧ Up w w' := by
  obtain ⟨c0, c1⟩ := bounds_u8 w0
  obtain ⟨c2, c3⟩ := bounds_u8 w1
  have HT := Lib.hid hT
  clear hT w0 w1
  obtain ⟨b, hb⟩ : ∃ b : Bool, (decide (32 ≤ c) && decide (c ≤ 126) && decide (32 ≤ d) && decide (d ≤ 126)) = b := ⟨_, rfl⟩
  have hcases : (b = true ∧ decide (32 ≤ c) = true ∧ decide (c ≤ 126) = true ∧ decide (32 ≤ d) = true ∧ decide (d ≤ 126) = true) ∨ (b = false ∧ decide (32 ≤ c) = false) ∨ (b = false ∧ decide (32 ≤ c) = true ∧ decide (c ≤ 126) = false) ∨ (b = false ∧ decide (32 ≤ c) = true ∧ decide (c ≤ 126) = true ∧ decide (32 ≤ d) = false) ∨ (b = false ∧ decide (32 ≤ c) = true ∧ decide (c ≤ 126) = true ∧ decide (32 ≤ d) = true ∧ decide (d ≤ 126) = false) := by
    cases h1 : decide (32 ≤ c) <;> cases h2 : decide (c ≤ 126) <;> cases h3 : decide (32 ≤ d) <;> cases h4 : decide (d ≤ 126) <;> simp_all
  clear hb
  rcases hcases with ⟨rfl, e1, e2, e3, e4⟩ | ⟨rfl, e1⟩ | ⟨rfl, e1, e2⟩ | ⟨rfl, e1, e2, e3⟩ | ⟨rfl, e1, e2, e3, e4⟩
  all_goals
    go_enter Tryd.func4, Tryd.ntmps4
    go_wp2
    go_loopw [6] (fun i wr => ∃ k : Nat, k ≤ 2 ∧ i = .int .i64 k ∧ Up w wr) (fun i _ => 2 - (intOf i).toNat)
    case atStart => exact ⟨0, by decide, rfl, Up.refl _⟩
    case round =>
      obtain ⟨k, hk, rfl, hup⟩ := hrel
      by_cases hlt : k < 2
      · obtain ⟨x, h1⟩ : ∃ x, width (k : Int) c = x := ⟨_, rfl⟩
        obtain ⟨y, h3⟩ : ∃ x, width (4 + (k : Int)) c = x := ⟨_, rfl⟩
        have h2 : width ((k : Int) + 2) c = x := by rw [← (even c k hlt).1, h1]
        have h4 : width (6 + (k : Int)) c = y := by rw [← (even c k hlt).2, h3]
        go_wp2_with (go_at_call 8; ((with_reducible refine (width_calls _ _ _ c0 c1).mono ?_); rintro e w' ⟨rfl, hu2⟩))
        go_roundw
        case rel => exact ⟨k + 1, by omega, by go_num, by (repeat' (first | (with_reducible exact Up.refl _) | (with_reducible assumption) | (with_reducible refine Up.alloc ?_ _) | (with_reducible refine Up.drew ?_) | (with_reducible refine Up.drewN ?_ _) | (with_reducible refine Up.setCell ?_ ?_ _) | (with_reducible refine Up.call ?_ (by with_reducible assumption)) | go_size))⟩
        case measure => simp [intOf]; omega
      · have hT2 : Hid (Tab wr) := Lib.hid (HT.out.up hup)
        have hp : width 0 c = 600 ∧ width 3 d = 600 ∨ True := .inr trivial
        try (have hp0 := (evens c d (of_decide_eq_true e1) (of_decide_eq_true e2) (of_decide_eq_true e3) (of_decide_eq_true e4)).1; have hp3 := (evens c d (of_decide_eq_true e1) (of_decide_eq_true e2) (of_decide_eq_true e3) (of_decide_eq_true e4)).2)
        clear hp
        go_wp2_with (first
          | (go_at_call 7; ((with_reducible refine (answers_calls _ hT2.out).mono ?_); rintro e w' ⟨rfl, hu⟩))
          | (go_at_call 8; ((with_reducible refine (width_calls 0 c _ c0 c1).mono ?_); rintro e w' ⟨rfl, hu2⟩))
          | (go_at_call 8; ((with_reducible refine (width_calls 3 d _ c2 c3).mono ?_); rintro e w' ⟨rfl, hu2⟩)))
        go_ret
        exact ⟨rfl, by (repeat' (first | (with_reducible exact Up.refl _) | (with_reducible assumption) | (with_reducible refine Up.alloc ?_ _) | (with_reducible refine Up.drew ?_) | (with_reducible refine Up.drewN ?_ _) | (with_reducible refine Up.setCell ?_ ?_ _) | (with_reducible refine Up.call ?_ (by with_reducible assumption)) | go_size))⟩

theorem own : ownKnob Tryd.prog.godebug = none := by kernel_rfl
theorem laidOut : laidOutB Tryd.prog = true := by kernel_rfl
/-- what the walk gives, for every argument and every world that holds the listed variables -/
theorem contract (H : Type) (enc : TypeId × Value → H) (W : World) (base : Nat) (args : Array Value) (ds gs : List (DataW H)) (before : List MemPlace)
    (hval : ∀ (j : Nat) t v, Tryd.f4.params[j]? = some t → args[j]? = some v → Value.okWide Tryd.prog W .any base t v)
    (hW : DataW.Whole enc Tryd.prog Tryd.f4.params.toList Rows.fontEvenSpec.vars false W args.toList ds gs before) (hL : laidMetH Tryd.prog Rows.fontEvenRow.laid W) :
    Calls Tryd.prog 4 args W fun e W' => ∃ v, e = .returned v ∧ Rows.fontEvenSpec.post enc Tryd.prog Tryd.f4 false true false false W args v W' := by
  have hW' := hW
  obtain ⟨p, q, hA0, hV, rfl, hfz, hnd⟩ := hW
  have hA : DataW.TrodAll enc Tryd.prog W 0 (fun _ => true) true Tryd.f4.params.toList args.toList ds p := hA0
  rw [Tryd.params4] at hA hval
  obtain ⟨v0, vs0, d0, ds0, p0, q0, hargs, rfl, rfl, h0, r0⟩ := trodAll_cons hA
  obtain ⟨v1, vs1, d1, ds1, p1, q1, rfl, rfl, rfl, h1, r1⟩ := trodAll_cons r0
  obtain ⟨rfl, rfl, rfl⟩ := trodAll_nil r1
  obtain rfl : args = #[v0, v1] := by cases args; simp_all
  obtain ⟨rfl, rfl⟩ := trodVars_none hV
  have k0 := h0
  have lt0 : ∀ x ∈ p0, x.block < W.heap.size := by obtain ⟨m, hm⟩ := k0; exact DataW.trod_lt m _ _ _ hm
  have k1 := h1
  have lt1 : ∀ x ∈ p1, x.block < W.heap.size := by obtain ⟨m, hm⟩ := k1; exact DataW.trod_lt m _ _ _ hm
  obtain ⟨a0, rfl, rfl, rfl, w0⟩ := open_int Tryd.underlying5 (hval 0 5 v0 rfl rfl) h0
  obtain ⟨a1, rfl, rfl, rfl, w1⟩ := open_int Tryd.underlying5 (hval 1 5 v1 rfl rfl) h1
  clear hA0 hval
  refine (walk (w := W) a0 a1 w0 w1 (table hL)).mono fun e W' ⟨he, bel⟩ => ?_
  subst he
  exact ⟨_, rfl, _, _, _, [], _, [], hW', trodAll_mk1 (shut_bool Tryd.underlying4 _), (trodAll_cons_mk (Below.trod laidOut (by kernel_rfl) (of_decide_eq_true (by kernel_rfl)) k0 bel lt0) (trodAll_cons_mk (Below.trod laidOut (by kernel_rfl) (of_decide_eq_true (by kernel_rfl)) k1 bel lt1) trodAll_mk0)), rfl, bel.frame _, fun h => by cases h⟩
noncomputable def laidWorld (os : Os) : World :=
  { World.holding Tryd.prog os ⟨#[], #[], []⟩ with heap := ((World.holding Tryd.prog os ⟨#[], #[], []⟩).heap).modify 0 fun
      | .cells _ t frozen => .cells #[.string ⟨#[67, 111, 117, 114, 105, 101, 114]⟩, .string ⟨#[67, 111, 117, 114, 105, 101, 114, 45, 66, 111, 108, 100]⟩, .string ⟨#[67, 111, 117, 114, 105, 101, 114, 45, 79, 98, 108, 105, 113, 117, 101]⟩, .string ⟨#[67, 111, 117, 114, 105, 101, 114, 45, 66, 111, 108, 100, 79, 98, 108, 105, 113, 117, 101]⟩, .string ⟨#[72, 101, 108, 118, 101, 116, 105, 99, 97]⟩, .string ⟨#[72, 101, 108, 118, 101, 116, 105, 99, 97, 45, 66, 111, 108, 100]⟩, .string ⟨#[72, 101, 108, 118, 101, 116, 105, 99, 97, 45, 79, 98, 108, 105, 113, 117, 101]⟩, .string ⟨#[72, 101, 108, 118, 101, 116, 105, 99, 97, 45, 66, 111, 108, 100, 79, 98, 108, 105, 113, 117, 101]⟩, .string ⟨#[84, 105, 109, 101, 115, 45, 82, 111, 109, 97, 110]⟩, .string ⟨#[84, 105, 109, 101, 115, 45, 66, 111, 108, 100]⟩, .string ⟨#[84, 105, 109, 101, 115, 45, 73, 116, 97, 108, 105, 99]⟩, .string ⟨#[84, 105, 109, 101, 115, 45, 66, 111, 108, 100, 73, 116, 97, 108, 105, 99]⟩, .string ⟨#[83, 121, 109, 98, 111, 108]⟩, .string ⟨#[90, 97, 112, 102, 68, 105, 110, 103, 98, 97, 116, 115]⟩] t frozen
      | o => o }
theorem laid_met (os : Os) : laidMet Tryd.prog Rows.fontEvenRow.laid ((laidWorld os).forCall (fun _ _ => 0) ⟨#[], #[.int .u8 0, .int .u8 0], []⟩).memory :=
  laidMet_of_run' 8 (by kernel_rfl) (by kernel_rfl)
theorem reads (os : Os) {H : Type} (enc : TypeId × Value → H) : ∃ places, DataW.whole enc Tryd.prog ((laidWorld os).forCall (fun _ _ => 0) ⟨#[], #[.int .u8 0, .int .u8 0], []⟩).memory Tryd.f4.params.toList Rows.fontEvenSpec.vars false #[(.int .u8 0 : Value), (.int .u8 0 : Value)].toList 8 = some ([.lit (.int .u8 0), .lit (.int .u8 0)], [], places) :=
  ⟨[], by kernel_rfl⟩
set_option maxRecDepth 100000 in
theorem lifted (os : Os) (started : os.Started) (H : Type) (enc : TypeId × Value → H) (F : Stop.Interp) :
    ReturnsInHanded {} Tryd.checked os 4 .any ((OpenSpec.ofChange Rows.fontEvenSpec).preRow enc Tryd.prog Tryd.f4 Rows.fontEvenRow.domain false Rows.fontEvenRow.laid) (((OpenSpec.ofChange Rows.fontEvenSpec).at F).post enc Tryd.prog Tryd.f4 false true false false) := by
  obtain ⟨places, hx⟩ := reads os enc
  refine returnsInHanded_of_row (C := Tryd.checked) (s := OpenSpec.ofChange Rows.fontEvenSpec) own started (by kernel_rfl) Tryd.func4
    (witness_row_at (enc := enc) (C := Tryd.checked) false (laidWorld os) #[.int .u8 0, .int .u8 0] rfl (by kernel_rfl) (by kernel_rfl) (by kernel_rfl)
      (OpenSpec.preRow_of_cond 8 hx (by kernel_rfl) (fun k hk => by cases hk) (by kernel_rfl) (laid_met os))) ?_
  intro W base args ds gs before hval hW _ _ _ hL _ _
  exact contract H enc W base args ds gs before hval hW hL
theorem said : Rows.FontEvenSaid :=
  OpenClaim.holds_of_cond 4 Tryd.f4 rfl rfl rfl rfl rfl rfl rfl ⟨rfl, rfl, rfl, rfl, rfl⟩ rfl rfl rfl rfl rfl (by kernel_rfl) Tryd.func4 (by kernel_rfl)
    (of_decide_eq_true (by kernel_rfl)) (by unfold Func.isWrapper; first | (rw [if_pos (by decide +kernel)]; kernel_rfl) | (rw [if_neg (by decide +kernel)]; exact ⟨rfl, rfl⟩))
    (fun os started H enc _ F => by rw [OpenClaim.pre_eq_preRow]; exact lifted os started H enc F)
theorem plain (f : FuncId) (fn : Func) (hf : Tryd.pinned.checked.prog.funcNamed "mezzotint/mezzotintlaw12.FontEven" = some f) (hfn : Tryd.pinned.checked.prog.funcs[f]? = some fn) :
    false = Tryd.pinned.checked.prog.looks [] ∧ ∀ (j : Nat) t, fn.params[j]? = some t → Tryd.pinned.checked.prog.wantsStandIn t = false := by
  obtain rfl : f = 4 := Option.some.inj ((show Tryd.prog.funcNamed "mezzotint/mezzotintlaw12.FontEven" = some 4 by kernel_rfl).symm.trans hf) |>.symm
  obtain rfl : fn = Tryd.f4 := (Option.some.inj (Tryd.func4.symm.trans hfn)).symm
  refine ⟨by kernel_rfl, fun j t ht => ?_⟩
  rw [Tryd.params4] at ht
  have hm : t ∈ [5, 5] := by have := Array.mem_of_getElem? ht; simpa using this
  simp only [List.mem_cons, List.not_mem_nil, or_false] at hm
  rcases hm with rfl | rfl
  · exact (show Tryd.prog.wantsStandIn 5 = false by kernel_rfl)
  · exact (show Tryd.prog.wantsStandIn 5 = false by kernel_rfl)
/-- THE CARD -/
theorem card : Rows.FontEvenCardSaid :=
  Claim7.holds_tied_plain_at .later [] _ _ _ _ said (fun _ h => by cases h) (by kernel_rfl) (fun _ h => by cases h) fontEven_row_tie rfl ⟨rfl, rfl⟩ (by kernel_rfl) rfl plain (by kernel_rfl)
#print axioms card
end Go.Proofs.YtcldhlppnedcjaaDoor.fontEven
