/- FontNames: for every number and every string the law returns true. Its card lists the package-level variable font.names as the program's text lays it. No other condition. -/
import Derived.Test.YtcldhlppnedcjaaDoorFontL
namespace Go.Proofs.YtcldhlppnedcjaaDoor.fontNames
open Go.ChangeShapes Go.WideShapes Go.ChangeAt Go.RowKit
open Go.ChangeMaps (open_string shut_string)
open Go.Proofs.YtcldhlppnedcjaaDoor.FontM Go.Proofs.YtcldhlppnedcjaaDoor.Font
set_option linter.unusedVariables false

theorem all_idx : (List.range 14).all (fun i => idx (namesL.getD i []) == some i && !(namesL.getD i []).isEmpty) = true := by rfl
theorem idx_none : idx [] = none := by rfl

set_option maxHeartbeats 1000000 in
theorem core (i : Int) (s wl : List UInt8) (w : World) (hT : Tab w) (n : Int) (ok : Bool) (k : Int)
    (hi : (∃ p : Nat, i = p ∧ p < 14 ∧ namesL.getD p [] = wl ∧ idx wl = some p ∧ wl.isEmpty = false ∧ Hid ((if 0 ≤ i ∧ i < 14 then namesL.getD i.toNat [] else []) = wl)) ∨ ((decide (0 ≤ i) = false ∨ (decide (0 ≤ i) = true ∧ decide (i < 14) = false)) ∧ wl = [] ∧ Hid ((if 0 ≤ i ∧ i < 14 then namesL.getD i.toNat [] else []) = wl)))
    (hs : Hid ((((idx s).getD 0 : Nat) : Int) = n ∧ (idx s).isSome = ok ∧ numOf (idx s) = k)) (hk : (ok = true ∧ decide (0 ≤ k) = true ∧ n = k) ∨ (ok = false ∧ decide (0 ≤ k) = false ∧ n = 0)) :
    Calls Tryd.prog 6 #[.int .i64 i, .string ⟨s.toArray⟩] w fun e w' => e = .returned (.bool true) ∧ Up w w' := by
  have HT := Lib.hid hT
  clear hT
  rcases hk with ⟨rfl, hk, rfl⟩ | ⟨rfl, hk, rfl⟩ <;> rcases hi with ⟨p, rfl, hp, hwl, hix, hem, HW⟩ | ⟨hi | ⟨hi, hi2⟩, rfl, HW⟩
  all_goals
    try have hb : ∀ fr, (w.alloc (.cells namesV 9 fr)).cell? ⟨w.heap.size, p, none⟩ = some (.string ⟨wl.toArray⟩) := fun fr => by rw [World.cell?_alloc_mark, namesV_at p hp, hwl]
    try have dp : decide (0 ≤ (p : Int)) = true := decide_eq_true (by omega)
    try have dp2 : decide ((p : Int) < 14) = true := decide_eq_true (by omega)
    try have HP := Lib.hid hwl
    try clear hwl
    try have hix := idx_none
    go_enter Tryd.func6, Tryd.ntmps6
    go_wp2_with (first
      | (go_at_call 12; ((with_reducible refine (names_calls _).mono ?_); rintro e w' ⟨fr, rfl, rfl⟩))
      | (go_at_call 13; ((with_reducible refine (find_calls s _ (HT.out.up (by (repeat' (first | (with_reducible exact Up.refl _) | (with_reducible assumption) | (with_reducible refine Up.alloc ?_ _) | (with_reducible refine Up.drew ?_) | (with_reducible refine Up.drewN ?_ _) | (with_reducible refine Up.setCell ?_ ?_ _) | (with_reducible refine Up.call ?_ (by with_reducible assumption)) | go_size))))).mono ?_); rw [hs.out.1, hs.out.2.1]; rintro e w' ⟨rfl, rfl⟩))
      | (go_at_call 14; ((with_reducible refine (font_calls s _).mono ?_); rw [hs.out.2.2]; rintro e w' ⟨rfl, hu1⟩))
      | (go_at_call 7; ((with_reducible refine (answers_calls _ (HT.out.up (by (repeat' (first | (with_reducible exact Up.refl _) | (with_reducible assumption) | (with_reducible refine Up.alloc ?_ _) | (with_reducible refine Up.drew ?_) | (with_reducible refine Up.drewN ?_ _) | (with_reducible refine Up.setCell ?_ ?_ _) | (with_reducible refine Up.call ?_ (by with_reducible assumption)) | go_size))))).mono ?_); rintro e w' ⟨rfl, hu⟩))
      | (go_at_call 15; ((with_reducible refine (name_calls _ _ (HT.out.up (by (repeat' (first | (with_reducible exact Up.refl _) | (with_reducible assumption) | (with_reducible refine Up.alloc ?_ _) | (with_reducible refine Up.drew ?_) | (with_reducible refine Up.drewN ?_ _) | (with_reducible refine Up.setCell ?_ ?_ _) | (with_reducible refine Up.call ?_ (by with_reducible assumption)) | go_size))))).mono ?_); rw [HW.out]; rintro e w' ⟨rfl, rfl⟩))
      | (go_at_call 13; ((with_reducible refine (find_calls _ _ (HT.out.up (by (repeat' (first | (with_reducible exact Up.refl _) | (with_reducible assumption) | (with_reducible refine Up.alloc ?_ _) | (with_reducible refine Up.drew ?_) | (with_reducible refine Up.drewN ?_ _) | (with_reducible refine Up.setCell ?_ ?_ _) | (with_reducible refine Up.call ?_ (by with_reducible assumption)) | go_size))))).mono ?_); rintro e w' ⟨rfl, rfl⟩)))
    go_ret
    exact ⟨rfl, by (repeat' (first | (with_reducible exact Up.refl _) | (with_reducible assumption) | (with_reducible refine Up.alloc ?_ _) | (with_reducible refine Up.drew ?_) | (with_reducible refine Up.drewN ?_ _) | (with_reducible refine Up.setCell ?_ ?_ _) | (with_reducible refine Up.call ?_ (by with_reducible assumption)) | go_size))⟩

theorem walk {w : World} (i : Int) (s : ByteArray) (w0 : (Lit.int .i64 i).wf = true) (w1 : s.size ≤ maxLen) (hT : Tab w) :
    Calls Tryd.prog 6 #[.int .i64 i, .string s] w fun e w' => e = .returned (.bool true) ∧ Up w w' := by
  clear w0 w1
  have hs : s = ⟨s.data.toList.toArray⟩ := by cases s; rfl
  rw [hs]
  refine core i _ (if 0 ≤ i ∧ i < 14 then namesL.getD i.toNat [] else []) w hT _ _ _ ?_ (Lib.hid ⟨rfl, rfl, rfl⟩) ?_
  · by_cases h : 0 ≤ i ∧ i < 14
    · obtain ⟨p, rfl⟩ := Int.eq_ofNat_of_zero_le h.1
      have h1 := all_idx
      rw [List.all_eq_true] at h1
      have h2 := h1 p (List.mem_range.2 (by omega))
      simp only [Bool.and_eq_true, beq_iff_eq, Bool.not_eq_true'] at h2
      rw [if_pos h, Int.toNat_natCast]
      exact .inl ⟨p, rfl, by omega, rfl, h2.1, h2.2, Lib.hid rfl⟩
    · rw [if_neg h]
      refine .inr ⟨?_, rfl, Lib.hid rfl⟩
      by_cases h0 : 0 ≤ i
      · exact .inr ⟨decide_eq_true h0, decide_eq_false (by omega)⟩
      · exact .inl (decide_eq_false h0)
  · cases idx s.data.toList with
    | none => exact .inr ⟨rfl, rfl, rfl⟩
    | some p => exact .inl ⟨rfl, decide_eq_true (show (0 : Int) ≤ (p : Int) by omega), rfl⟩

theorem own : ownKnob Tryd.prog.godebug = none := by kernel_rfl
theorem laidOut : laidOutB Tryd.prog = true := by kernel_rfl
/-- what the walk gives, for every argument and every world that holds the listed variables -/
theorem contract (H : Type) (enc : TypeId × Value → H) (W : World) (base : Nat) (args : Array Value) (ds gs : List (DataW H)) (before : List MemPlace)
    (hval : ∀ (j : Nat) t v, Tryd.f6.params[j]? = some t → args[j]? = some v → Value.okWide Tryd.prog W .any base t v)
    (hW : DataW.Whole enc Tryd.prog Tryd.f6.params.toList Rows.fontNamesSpec.vars false W args.toList ds gs before) (hL : laidMetH Tryd.prog Rows.fontNamesRow.laid W) :
    Calls Tryd.prog 6 args W fun e W' => ∃ v, e = .returned v ∧ Rows.fontNamesSpec.post enc Tryd.prog Tryd.f6 false true false false W args v W' := by
  have hW' := hW
  obtain ⟨p, q, hA0, hV, rfl, hfz, hnd⟩ := hW
  have hA : DataW.TrodAll enc Tryd.prog W 0 (fun _ => true) true Tryd.f6.params.toList args.toList ds p := hA0
  rw [Tryd.params6] at hA hval
  obtain ⟨v0, vs0, d0, ds0, p0, q0, hargs, rfl, rfl, h0, r0⟩ := trodAll_cons hA
  obtain ⟨v1, vs1, d1, ds1, p1, q1, rfl, rfl, rfl, h1, r1⟩ := trodAll_cons r0
  obtain ⟨rfl, rfl, rfl⟩ := trodAll_nil r1
  obtain rfl : args = #[v0, v1] := by cases args; simp_all
  obtain ⟨rfl, rfl⟩ := trodVars_none hV
  have k0 := h0
  have lt0 : ∀ x ∈ p0, x.block < W.heap.size := by obtain ⟨m, hm⟩ := k0; exact DataW.trod_lt m _ _ _ hm
  have k1 := h1
  have lt1 : ∀ x ∈ p1, x.block < W.heap.size := by obtain ⟨m, hm⟩ := k1; exact DataW.trod_lt m _ _ _ hm
  obtain ⟨a0, rfl, rfl, rfl, w0⟩ := open_int Tryd.underlying3 (hval 0 3 v0 rfl rfl) h0
  obtain ⟨a1, rfl, rfl, rfl, w1⟩ := open_string Tryd.underlying9 (hval 1 9 v1 rfl rfl) h1
  clear hA0 hval
  refine (walk (w := W) a0 a1 w0 w1 (table hL)).mono fun e W' ⟨he, bel⟩ => ?_
  subst he
  exact ⟨_, rfl, _, _, _, [], _, [], hW', trodAll_mk1 (shut_bool Tryd.underlying4 _), (trodAll_cons_mk (Below.trod laidOut (by kernel_rfl) (of_decide_eq_true (by kernel_rfl)) k0 bel lt0) (trodAll_cons_mk (Below.trod laidOut (by kernel_rfl) (of_decide_eq_true (by kernel_rfl)) k1 bel lt1) trodAll_mk0)), rfl, bel.frame _, fun h => by cases h⟩
noncomputable def laidWorld (os : Os) : World :=
  { World.holding Tryd.prog os ⟨#[], #[], []⟩ with heap := ((World.holding Tryd.prog os ⟨#[], #[], []⟩).heap).modify 0 fun
      | .cells _ t frozen => .cells #[.string ⟨#[67, 111, 117, 114, 105, 101, 114]⟩, .string ⟨#[67, 111, 117, 114, 105, 101, 114, 45, 66, 111, 108, 100]⟩, .string ⟨#[67, 111, 117, 114, 105, 101, 114, 45, 79, 98, 108, 105, 113, 117, 101]⟩, .string ⟨#[67, 111, 117, 114, 105, 101, 114, 45, 66, 111, 108, 100, 79, 98, 108, 105, 113, 117, 101]⟩, .string ⟨#[72, 101, 108, 118, 101, 116, 105, 99, 97]⟩, .string ⟨#[72, 101, 108, 118, 101, 116, 105, 99, 97, 45, 66, 111, 108, 100]⟩, .string ⟨#[72, 101, 108, 118, 101, 116, 105, 99, 97, 45, 79, 98, 108, 105, 113, 117, 101]⟩, .string ⟨#[72, 101, 108, 118, 101, 116, 105, 99, 97, 45, 66, 111, 108, 100, 79, 98, 108, 105, 113, 117, 101]⟩, .string ⟨#[84, 105, 109, 101, 115, 45, 82, 111, 109, 97, 110]⟩, .string ⟨#[84, 105, 109, 101, 115, 45, 66, 111, 108, 100]⟩, .string ⟨#[84, 105, 109, 101, 115, 45, 73, 116, 97, 108, 105, 99]⟩, .string ⟨#[84, 105, 109, 101, 115, 45, 66, 111, 108, 100, 73, 116, 97, 108, 105, 99]⟩, .string ⟨#[83, 121, 109, 98, 111, 108]⟩, .string ⟨#[90, 97, 112, 102, 68, 105, 110, 103, 98, 97, 116, 115]⟩] t frozen
      | o => o }
theorem laid_met (os : Os) : laidMet Tryd.prog Rows.fontNamesRow.laid ((laidWorld os).forCall (fun _ _ => 0) ⟨#[], #[.int .i64 0, .string ⟨#[]⟩], []⟩).memory :=
  laidMet_of_run' 8 (by kernel_rfl) (by kernel_rfl)
theorem reads (os : Os) {H : Type} (enc : TypeId × Value → H) : ∃ places, DataW.whole enc Tryd.prog ((laidWorld os).forCall (fun _ _ => 0) ⟨#[], #[.int .i64 0, .string ⟨#[]⟩], []⟩).memory Tryd.f6.params.toList Rows.fontNamesSpec.vars false #[(.int .i64 0 : Value), (.string ⟨#[]⟩ : Value)].toList 8 = some ([.lit (.int .i64 0), .lit (.string [])], [], places) :=
  ⟨[], by kernel_rfl⟩
set_option maxRecDepth 100000 in
theorem lifted (os : Os) (started : os.Started) (H : Type) (enc : TypeId × Value → H) (F : Stop.Interp) :
    ReturnsInHanded {} Tryd.checked os 6 .any ((OpenSpec.ofChange Rows.fontNamesSpec).preRow enc Tryd.prog Tryd.f6 Rows.fontNamesRow.domain false Rows.fontNamesRow.laid) (((OpenSpec.ofChange Rows.fontNamesSpec).at F).post enc Tryd.prog Tryd.f6 false true false false) := by
  obtain ⟨places, hx⟩ := reads os enc
  refine returnsInHanded_of_row (C := Tryd.checked) (s := OpenSpec.ofChange Rows.fontNamesSpec) own started (by kernel_rfl) Tryd.func6
    (witness_row_at (enc := enc) (C := Tryd.checked) false (laidWorld os) #[.int .i64 0, .string ⟨#[]⟩] rfl (by kernel_rfl) (by kernel_rfl) (by kernel_rfl)
      (OpenSpec.preRow_of_cond 8 hx (by kernel_rfl) (fun k hk => by cases hk) (by kernel_rfl) (laid_met os))) ?_
  intro W base args ds gs before hval hW _ _ _ hL _ _
  exact contract H enc W base args ds gs before hval hW hL
theorem said : Rows.FontNamesSaid :=
  OpenClaim.holds_of_cond 6 Tryd.f6 rfl rfl rfl rfl rfl rfl rfl ⟨rfl, rfl, rfl, rfl, rfl⟩ rfl rfl rfl rfl rfl (by kernel_rfl) Tryd.func6 (by kernel_rfl)
    (of_decide_eq_true (by kernel_rfl)) (by unfold Func.isWrapper; first | (rw [if_pos (by decide +kernel)]; kernel_rfl) | (rw [if_neg (by decide +kernel)]; exact ⟨rfl, rfl⟩))
    (fun os started H enc _ F => by rw [OpenClaim.pre_eq_preRow]; exact lifted os started H enc F)
theorem plain (f : FuncId) (fn : Func) (hf : Tryd.pinned.checked.prog.funcNamed "mezzotint/mezzotintlaw12.FontNames" = some f) (hfn : Tryd.pinned.checked.prog.funcs[f]? = some fn) :
    false = Tryd.pinned.checked.prog.looks [] ∧ ∀ (j : Nat) t, fn.params[j]? = some t → Tryd.pinned.checked.prog.wantsStandIn t = false := by
  obtain rfl : f = 6 := Option.some.inj ((show Tryd.prog.funcNamed "mezzotint/mezzotintlaw12.FontNames" = some 6 by kernel_rfl).symm.trans hf) |>.symm
  obtain rfl : fn = Tryd.f6 := (Option.some.inj (Tryd.func6.symm.trans hfn)).symm
  refine ⟨by kernel_rfl, fun j t ht => ?_⟩
  rw [Tryd.params6] at ht
  have hm : t ∈ [3, 9] := by have := Array.mem_of_getElem? ht; simpa using this
  simp only [List.mem_cons, List.not_mem_nil, or_false] at hm
  rcases hm with rfl | rfl
  · exact (show Tryd.prog.wantsStandIn 3 = false by kernel_rfl)
  · exact (show Tryd.prog.wantsStandIn 9 = false by kernel_rfl)
/-- THE CARD -/
theorem card : Rows.FontNamesCardSaid :=
  Claim7.holds_tied_plain_at .later [] _ _ _ _ said (fun _ h => by cases h) (by kernel_rfl) (fun _ h => by cases h) fontNames_row_tie rfl ⟨rfl, rfl⟩ (by kernel_rfl) rfl plain (by kernel_rfl)
#print axioms card
end Go.Proofs.YtcldhlppnedcjaaDoor.fontNames
