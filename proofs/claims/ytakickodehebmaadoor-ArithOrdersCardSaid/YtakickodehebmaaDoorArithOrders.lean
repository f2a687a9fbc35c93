/- ArithOrders: for every input the law returns true. Its card lists a package-level variable. No other condition. -/
import Derived.Test.YtakickodehebmaaDoorArP
import Derived.Lib.LaidTab
import Derived.Deep.DeepHandedRow
import Derived.Test.YtakickodehebmaaDoorTie
import Derived.Test.YtakickodehebmaaDoorCards
import Derived.Test.YtakickodehebmaaDoorArgs
import Derived.Deep.QuietTactic
import Derived.Deep.Cut
import Derived.Test.YtakickodehebmaaDoorArQ
import Derived.Test.YtakickodehebmaaDoorObj
import Derived.Test.YtakickodehebmaaDoorArOrN
import Derived.Test.YtakickodehebmaaDoorArOrL
import Derived.Test.YtakickodehebmaaDoorArOrE
import Derived.Test.YtakickodehebmaaDoorArOrG
namespace Go.Proofs.YtakickodehebmaaDoor.arithOrders
open Go.ChangeShapes Go.WideShapes Go.ChangeAt Go.RowKit
open Go.Proofs.YtakickodehebmaaDoor.FixM (fits within)
open Go.Proofs.YtakickodehebmaaDoor.ArM
open Go.Proofs.YtakickodehebmaaDoor.Ar
set_option linter.unusedVariables false
set_option linter.unusedSimpArgs false
theorem table {W : World} (h : laidMetH Tryd.prog [("mezzotint/mat.sines", Rows.laid_mezzotint_mat_sines)] W) : True := trivial

set_option maxHeartbeats 8000000 in
set_option maxRecDepth 4000 in
theorem walk {w : World} (k : Int) (x : Bool) (a n : Int) (s : ByteArray) (r f l : Int) (k' : Int) (x' : Bool) (a' n' : Int) (s' : ByteArray) (r' f' l' : Int) (k2 : Int) (x2 : Bool) (a2 n2 : Int) (s2 : ByteArray) (r2 f2 l2 : Int) (w0 : (Lit.int .i64 k).wf = true ∧ (Lit.int .i64 a).wf = true ∧ (Lit.int .i64 n).wf = true ∧ (s.size : Int) ≤ IntKind.i64.max ∧ (Lit.int .i64 r).wf = true ∧ (Lit.int .i64 f).wf = true ∧ (Lit.int .i64 l).wf = true) (w1 : (Lit.int .i64 k').wf = true ∧ (Lit.int .i64 a').wf = true ∧ (Lit.int .i64 n').wf = true ∧ (s'.size : Int) ≤ IntKind.i64.max ∧ (Lit.int .i64 r').wf = true ∧ (Lit.int .i64 f').wf = true ∧ (Lit.int .i64 l').wf = true) (w2 : (Lit.int .i64 k2).wf = true ∧ (Lit.int .i64 a2).wf = true ∧ (Lit.int .i64 n2).wf = true ∧ (s2.size : Int) ≤ IntKind.i64.max ∧ (Lit.int .i64 r2).wf = true ∧ (Lit.int .i64 f2).wf = true ∧ (Lit.int .i64 l2).wf = true) (hT : True) :
    Calls Tryd.prog 4 #[.agg #[.int .i64 k, .bool x, .int .i64 a, .int .i64 n, .string s, .int .i64 r, .int .i64 f, .int .i64 l], .agg #[.int .i64 k', .bool x', .int .i64 a', .int .i64 n', .string s', .int .i64 r', .int .i64 f', .int .i64 l'], .agg #[.int .i64 k2, .bool x2, .int .i64 a2, .int .i64 n2, .string s2, .int .i64 r2, .int .i64 f2, .int .i64 l2]] w fun e w' => e = .returned (.bool true) ∧ Up w w' := by
  clear w0 w1 w2 hT
  obtain ⟨v1, h1⟩ : ∃ v, numb k n = v := ⟨_, rfl⟩
  obtain ⟨v2, h2⟩ : ∃ v, numb k' n' = v := ⟨_, rfl⟩
  obtain ⟨v3, h3⟩ : ∃ v, numb k2 n2 = v := ⟨_, rfl⟩
  cases hv : (v1 && v2)
  · exact walk_no k x a n s r f l k' x' a' n' s' r' f' l' k2 x2 a2 n2 s2 r2 f2 l2 v1 v2 (Lib.hid h1) (Lib.hid h2) hv
  · obtain ⟨rfl, rfl⟩ : v1 = true ∧ v2 = true := by cases v1 <;> cases v2 <;> first | exact ⟨rfl, rfl⟩ | exact absurd hv (by decide)
    have HB := Lib.hid (show (numb k n && numb k' n') = true by rw [h1, h2]; rfl)
    have HB2 := Lib.hid (show (numb k' n' && numb k n) = true by rw [h1, h2]; rfl)
    have HB3 := Lib.hid (show (numb k' n' && numb k2 n2) = v3 by rw [h2, h3]; rfl)
    have HB4 := Lib.hid (show (numb k n && numb k2 n2) = v3 by rw [h1, h3]; rfl)
    obtain ⟨t3, ht⟩ : ∃ x, (v3 && decide (scaled k' n' < scaled k2 n2)) = x := ⟨_, rfl⟩
    obtain ⟨f3, hf⟩ : ∃ x, (v3 && decide (scaled k n < scaled k2 n2)) = x := ⟨_, rfl⟩
    have hO : ∀ p, decide (scaled k n < scaled k' n') = p → bin 22 k n k' n' = ((3, truthN p, 0) : R) := by
      intro p hp
      have : orderB 22 (scaled k n) (scaled k' n') = p := hp
      rw [← this]; simp [bin, h1, h2]
    rcases (show scaled k n < scaled k' n' ∨ scaled k n = scaled k' n' ∨ scaled k' n' < scaled k n by omega) with h | h | h
    · refine walk_L k x a n s r f l k' x' a' n' s' r' f' l' k2 x2 a2 n2 s2 r2 f2 l2 v3 t3 f3 (Lib.hid (by rw [h1, h2]; rfl)) (Lib.hid (by rw [h1, h2]; rfl)) HB3 HB4 (Lib.hid (by simp [h])) (Lib.hid (by simp; omega)) (Lib.hid (by simp; omega)) (Lib.hid ht) (Lib.hid hf) (Lib.hid h1) (Lib.hid h2) (Lib.hid (hO true (decide_eq_true h))) (Lib.hid ?_)
      rw [← ht, ← hf]
      by_cases g : scaled k' n' < scaled k2 n2
      · have g2 : scaled k n < scaled k2 n2 := by omega
        simp only [g, g2]
        cases v3 <;> simp
      · simp [g]
    · exact walk_E k x a n s r f l k' x' a' n' s' r' f' l' k2 x2 a2 n2 s2 r2 f2 l2 v3 t3 f3 HB HB2 HB3 HB4 (Lib.hid (by simp; omega)) (Lib.hid (by simp [h])) (Lib.hid (by simp; omega)) (Lib.hid ht) (Lib.hid hf) (Lib.hid h1) (Lib.hid h2) (Lib.hid (hO false (decide_eq_false (by omega))))
    · exact walk_G k x a n s r f l k' x' a' n' s' r' f' l' k2 x2 a2 n2 s2 r2 f2 l2 v3 t3 f3 HB HB2 HB3 HB4 (Lib.hid (by simp; omega)) (Lib.hid (by simp; omega)) (Lib.hid (by simp [h])) (Lib.hid ht) (Lib.hid hf) (Lib.hid h1) (Lib.hid h2) (Lib.hid (hO false (decide_eq_false (by omega))))

theorem own : ownKnob Tryd.prog.godebug = none := by kernel_rfl
theorem laidOut : laidOutB Tryd.prog = true := by kernel_rfl
/-- what the walk gives, for every argument and every world that holds the listed variables -/
theorem contract (H : Type) (enc : TypeId × Value → H) (W : World) (base : Nat) (args : Array Value) (ds gs : List (DataW H)) (before : List MemPlace)
    (hval : ∀ (j : Nat) t v, Tryd.f4.params[j]? = some t → args[j]? = some v → Value.okWide Tryd.prog W .any base t v)
    (hW : DataW.Whole enc Tryd.prog Tryd.f4.params.toList Rows.arithOrdersSpec.vars false W args.toList ds gs before) (hL : laidMetH Tryd.prog Rows.arithOrdersRow.laid W) :
    Calls Tryd.prog 4 args W fun e W' => ∃ v, e = .returned v ∧ Rows.arithOrdersSpec.post enc Tryd.prog Tryd.f4 false true false false W args v W' := by
  have hW' := hW
  obtain ⟨p, q, hA0, hV, rfl, hfz, hnd⟩ := hW
  have hA : DataW.TrodAll enc Tryd.prog W 0 (fun _ => true) true Tryd.f4.params.toList args.toList ds p := hA0
  rw [Tryd.params4] at hA hval
  obtain ⟨v0, vs0, d0, ds0, p0, q0, hargs, rfl, rfl, h0, r0⟩ := trodAll_cons hA
  obtain ⟨v1, vs1, d1, ds1, p1, q1, rfl, rfl, rfl, h1, r1⟩ := trodAll_cons r0
  obtain ⟨v2, vs2, d2, ds2, p2, q2, rfl, rfl, rfl, h2, r2⟩ := trodAll_cons r1
  obtain ⟨rfl, rfl, rfl⟩ := trodAll_nil r2
  obtain rfl : args = #[v0, v1, v2] := by cases args; simp_all
  obtain ⟨rfl, rfl⟩ := trodVars_none hV
  have k0 := h0
  have lt0 : ∀ x ∈ p0, x.block < W.heap.size := by obtain ⟨m, hm⟩ := k0; exact DataW.trod_lt m _ _ _ hm
  have k1 := h1
  have lt1 : ∀ x ∈ p1, x.block < W.heap.size := by obtain ⟨m, hm⟩ := k1; exact DataW.trod_lt m _ _ _ hm
  have k2 := h2
  have lt2 : ∀ x ∈ p2, x.block < W.heap.size := by obtain ⟨m, hm⟩ := k2; exact DataW.trod_lt m _ _ _ hm
  obtain ⟨c0a, c0b, c0c, c0d, c0e, c0f, c0g, c0h, rfl, w0⟩ := obj_wide (fun _ => (hval 0 38 v0 rfl rfl))
  obtain ⟨c1a, c1b, c1c, c1d, c1e, c1f, c1g, c1h, rfl, w1⟩ := obj_wide (fun _ => (hval 1 38 v1 rfl rfl))
  obtain ⟨c2a, c2b, c2c, c2d, c2e, c2f, c2g, c2h, rfl, w2⟩ := obj_wide (fun _ => (hval 2 38 v2 rfl rfl))
  clear hA0 hval
  refine (walk (w := W) c0a c0b c0c c0d c0e c0f c0g c0h c1a c1b c1c c1d c1e c1f c1g c1h c2a c2b c2c c2d c2e c2f c2g c2h w0 w1 w2 (table hL)).mono fun e W' ⟨he, bel⟩ => ?_
  subst he
  exact ⟨_, rfl, _, _, _, [], _, [], hW', trodAll_mk1 (shut_bool Tryd.underlying4 _), (trodAll_cons_mk (Below.trod laidOut (by kernel_rfl) (of_decide_eq_true (by kernel_rfl)) k0 bel lt0) (trodAll_cons_mk (Below.trod laidOut (by kernel_rfl) (of_decide_eq_true (by kernel_rfl)) k1 bel lt1) (trodAll_cons_mk (Below.trod laidOut (by kernel_rfl) (of_decide_eq_true (by kernel_rfl)) k2 bel lt2) trodAll_mk0))), rfl, bel.frame _, fun h => by cases h⟩
noncomputable def laidWorld (os : Os) : World :=
  { World.holding Tryd.prog os ⟨#[], #[], []⟩ with heap := ((World.holding Tryd.prog os ⟨#[], #[], []⟩).heap).modify 0 fun
      | .cells _ t frozen => .cells #[.int .i64 0, .int .i64 1144, .int .i64 2287, .int .i64 3430, .int .i64 4572, .int .i64 5712, .int .i64 6850, .int .i64 7987, .int .i64 9121, .int .i64 10252, .int .i64 11380, .int .i64 12505, .int .i64 13626, .int .i64 14742, .int .i64 15855, .int .i64 16962, .int .i64 18064, .int .i64 19161, .int .i64 20252, .int .i64 21336, .int .i64 22415, .int .i64 23486, .int .i64 24550, .int .i64 25607, .int .i64 26656, .int .i64 27697, .int .i64 28729, .int .i64 29753, .int .i64 30767, .int .i64 31772, .int .i64 32768, .int .i64 33754, .int .i64 34729, .int .i64 35693, .int .i64 36647, .int .i64 37590, .int .i64 38521, .int .i64 39441, .int .i64 40348, .int .i64 41243, .int .i64 42126, .int .i64 42995, .int .i64 43852, .int .i64 44695, .int .i64 45525, .int .i64 46341, .int .i64 47143, .int .i64 47930, .int .i64 48703, .int .i64 49461, .int .i64 50203, .int .i64 50931, .int .i64 51643, .int .i64 52339, .int .i64 53020, .int .i64 53684, .int .i64 54332, .int .i64 54963, .int .i64 55578, .int .i64 56175, .int .i64 56756, .int .i64 57319, .int .i64 57865, .int .i64 58393, .int .i64 58903, .int .i64 59396, .int .i64 59870, .int .i64 60326, .int .i64 60764, .int .i64 61183, .int .i64 61584, .int .i64 61966, .int .i64 62328, .int .i64 62672, .int .i64 62997, .int .i64 63303, .int .i64 63589, .int .i64 63856, .int .i64 64104, .int .i64 64332, .int .i64 64540, .int .i64 64729, .int .i64 64898, .int .i64 65048, .int .i64 65177, .int .i64 65287, .int .i64 65376, .int .i64 65446, .int .i64 65496, .int .i64 65526, .int .i64 65536] t frozen
      | o => o }
theorem laid_met (os : Os) : laidMet Tryd.prog Rows.arithOrdersRow.laid ((laidWorld os).forCall (fun _ _ => 0) ⟨#[], #[.agg #[.int .i64 0, .bool false, .int .i64 0, .int .i64 0, .string ⟨#[]⟩, .int .i64 0, .int .i64 0, .int .i64 0], .agg #[.int .i64 0, .bool false, .int .i64 0, .int .i64 0, .string ⟨#[]⟩, .int .i64 0, .int .i64 0, .int .i64 0], .agg #[.int .i64 0, .bool false, .int .i64 0, .int .i64 0, .string ⟨#[]⟩, .int .i64 0, .int .i64 0, .int .i64 0]], []⟩).memory :=
  laidMet_of_run' 8 (by kernel_rfl) (by kernel_rfl)
theorem reads (os : Os) {H : Type} (enc : TypeId × Value → H) : ∃ places, DataW.whole enc Tryd.prog ((laidWorld os).forCall (fun _ _ => 0) ⟨#[], #[.agg #[.int .i64 0, .bool false, .int .i64 0, .int .i64 0, .string ⟨#[]⟩, .int .i64 0, .int .i64 0, .int .i64 0], .agg #[.int .i64 0, .bool false, .int .i64 0, .int .i64 0, .string ⟨#[]⟩, .int .i64 0, .int .i64 0, .int .i64 0], .agg #[.int .i64 0, .bool false, .int .i64 0, .int .i64 0, .string ⟨#[]⟩, .int .i64 0, .int .i64 0, .int .i64 0]], []⟩).memory Tryd.f4.params.toList Rows.arithOrdersSpec.vars false #[(.agg #[.int .i64 0, .bool false, .int .i64 0, .int .i64 0, .string ⟨#[]⟩, .int .i64 0, .int .i64 0, .int .i64 0] : Value), (.agg #[.int .i64 0, .bool false, .int .i64 0, .int .i64 0, .string ⟨#[]⟩, .int .i64 0, .int .i64 0, .int .i64 0] : Value), (.agg #[.int .i64 0, .bool false, .int .i64 0, .int .i64 0, .string ⟨#[]⟩, .int .i64 0, .int .i64 0, .int .i64 0] : Value)].toList 8 = some ([.agg [.lit (.int .i64 0), .lit (.bool false), .lit (.int .i64 0), .lit (.int .i64 0), .lit (.string []), .lit (.int .i64 0), .lit (.int .i64 0), .lit (.int .i64 0)], .agg [.lit (.int .i64 0), .lit (.bool false), .lit (.int .i64 0), .lit (.int .i64 0), .lit (.string []), .lit (.int .i64 0), .lit (.int .i64 0), .lit (.int .i64 0)], .agg [.lit (.int .i64 0), .lit (.bool false), .lit (.int .i64 0), .lit (.int .i64 0), .lit (.string []), .lit (.int .i64 0), .lit (.int .i64 0), .lit (.int .i64 0)]], [], places) :=
  ⟨[], by kernel_rfl⟩
set_option maxRecDepth 100000 in
theorem lifted (os : Os) (started : os.Started) (H : Type) (enc : TypeId × Value → H) (F : Stop.Interp) :
    ReturnsInHanded {} Tryd.checked os 4 .any ((OpenSpec.ofChange Rows.arithOrdersSpec).preRow enc Tryd.prog Tryd.f4 Rows.arithOrdersRow.domain false Rows.arithOrdersRow.laid) (((OpenSpec.ofChange Rows.arithOrdersSpec).at F).post enc Tryd.prog Tryd.f4 false true false false) := by
  obtain ⟨places, hx⟩ := reads os enc
  refine returnsInHanded_of_row (C := Tryd.checked) (s := OpenSpec.ofChange Rows.arithOrdersSpec) own started (by kernel_rfl) Tryd.func4
    (witness_row_at (enc := enc) (C := Tryd.checked) false (laidWorld os) #[.agg #[.int .i64 0, .bool false, .int .i64 0, .int .i64 0, .string ⟨#[]⟩, .int .i64 0, .int .i64 0, .int .i64 0], .agg #[.int .i64 0, .bool false, .int .i64 0, .int .i64 0, .string ⟨#[]⟩, .int .i64 0, .int .i64 0, .int .i64 0], .agg #[.int .i64 0, .bool false, .int .i64 0, .int .i64 0, .string ⟨#[]⟩, .int .i64 0, .int .i64 0, .int .i64 0]] rfl (by kernel_rfl) (by kernel_rfl) (by kernel_rfl)
      (OpenSpec.preRow_of_cond 8 hx (by kernel_rfl) (fun k hk => by cases hk) (by kernel_rfl) (laid_met os))) ?_
  intro W base args ds gs before hval hW _ _ _ hL _ _
  exact contract H enc W base args ds gs before hval hW hL
theorem said : Rows.ArithOrdersSaid :=
  OpenClaim.holds_of_cond 4 Tryd.f4 rfl rfl rfl rfl rfl rfl rfl ⟨rfl, rfl, rfl, rfl, rfl⟩ rfl rfl rfl rfl rfl (by kernel_rfl) Tryd.func4 (by kernel_rfl)
    (of_decide_eq_true (by kernel_rfl)) (by unfold Func.isWrapper; first | (rw [if_pos (by decide +kernel)]; kernel_rfl) | (rw [if_neg (by decide +kernel)]; exact ⟨rfl, rfl⟩))
    (fun os started H enc _ F => by rw [OpenClaim.pre_eq_preRow]; exact lifted os started H enc F)
theorem plain (f : FuncId) (fn : Func) (hf : Tryd.pinned.checked.prog.funcNamed "mezzotint/mezzotintlaw08.ArithOrders" = some f) (hfn : Tryd.pinned.checked.prog.funcs[f]? = some fn) :
    false = Tryd.pinned.checked.prog.looks [] ∧ ∀ (j : Nat) t, fn.params[j]? = some t → Tryd.pinned.checked.prog.wantsStandIn t = false := by
  obtain rfl : f = 4 := Option.some.inj ((show Tryd.prog.funcNamed "mezzotint/mezzotintlaw08.ArithOrders" = some 4 by kernel_rfl).symm.trans hf) |>.symm
  obtain rfl : fn = Tryd.f4 := (Option.some.inj (Tryd.func4.symm.trans hfn)).symm
  refine ⟨by kernel_rfl, fun j t ht => ?_⟩
  rw [Tryd.params4] at ht
  have hm : t ∈ [38, 38, 38] := by have := Array.mem_of_getElem? ht; simpa using this
  simp only [List.mem_cons, List.not_mem_nil, or_false] at hm
  rcases hm with rfl | rfl | rfl
  · exact (show Tryd.prog.wantsStandIn 38 = false by kernel_rfl)
  · exact (show Tryd.prog.wantsStandIn 38 = false by kernel_rfl)
  · exact (show Tryd.prog.wantsStandIn 38 = false by kernel_rfl)
/-- THE CARD -/
theorem card : Rows.ArithOrdersCardSaid :=
  Claim7.holds_tied_plain_at .later [] _ _ _ _ said (fun _ h => by cases h) (by kernel_rfl) (fun _ h => by cases h) arithOrders_row_tie rfl ⟨rfl, rfl⟩ (by kernel_rfl) rfl plain (by kernel_rfl)
#print axioms card
end Go.Proofs.YtakickodehebmaaDoor.arithOrders
