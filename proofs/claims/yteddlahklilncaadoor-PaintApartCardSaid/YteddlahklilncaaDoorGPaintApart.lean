/- PaintApart: for every item the law returns true. Its card lists the package-level variable font.names as the program's text lays it. No other condition. -/
import Derived.Test.YteddlahklilncaaDoorGPa14
import Derived.Test.YteddlahklilncaaDoorTie
import Derived.Test.YteddlahklilncaaDoorCards
import Derived.Test.YteddlahklilncaaDoorArgs
import Derived.Lib.LaidTab
import Derived.Deep.DeepHandedRow
namespace Go.Proofs.YteddlahklilncaaDoor.paintApart
open Go.ChangeShapes Go.WideShapes Go.ChangeAt Go.RowKit Go.Deep
open Go.Proofs.YteddlahklilncaaDoor.Pt Go.Proofs.YteddlahklilncaaDoor.Font
set_option linter.unusedVariables false
set_option linter.unusedSimpArgs false

theorem itemV_agg {H : Type} {enc : TypeId × Value → H} {W : World} {v : Value} {d : DataW H} {p : List MemPlace}
    (h : DataW.Trod enc Tryd.prog W 0 (fun _ => true) true 36 v d p) : ∃ cs, v = .agg cs := by
  obtain ⟨fuel, hf⟩ := h
  obtain ⟨n, hl, -⟩ := trod_field Tryd.underlying36 hf
  rw [ptItem] at hl
  clear hf
  cases v <;> first | exact ⟨_, rfl⟩ | (simp [Value.cells] at hl)
theorem apart_item (i : Pt.Item) (w : World) (h : i.is w) (hA : ItemA w i) (hT : Font.Tab w) :
    Calls Tryd.prog 4 #[.agg i.cells.toArray] w fun e w' => e = .returned (.bool true) ∧ Up w w' := by
  obtain ⟨pa, pl, pc, ca, cl, cc, da, dl, dc, ba, bl, bc, e1, e2, e3, e4, hLs⟩ := item_lists h
  obtain ⟨k, pv, l, sp, p0, p1, p2, p3, cv, cs, wd, cp, jn, mt, dv, ds, ph, fn, m, bv, bs⟩ := i
  simp only at e1 e2 e3 e4
  subst e1 e2 e3 e4
  cases hL : lightR pl bl cl dl
  · exact apart_dark k pa pl pc sp p0 p1 p2 p3 ca cl cc wd cp jn mt da dl dc ph fn m ba bl bc l cs ds bs w h hA hLs hT hL
  · cases hok : itemR ⟨k, .slice pa pl pc, l, sp, p0, p1, p2, p3, .slice ca cl cc, cs, wd, cp, jn, mt, .slice da dl dc, ds, ph, fn, m, .slice ba bl bc, bs⟩
    · exact apart_bad k pa pl pc sp p0 p1 p2 p3 ca cl cc wd cp jn mt da dl dc ph fn m ba bl bc l cs ds bs w h hA hLs hT hL hok
    · refine apart_ok k pa pl pc sp p0 p1 p2 p3 ca cl cc wd cp jn mt da dl dc ph fn m ba bl bc l cs ds bs w h hA hLs hT hL hok (lens_of hok ?_)
      simp only [hLs.pn, hLs.bn, hLs.dn, hLs.sl.2.2.1]
      exact hL
theorem walk {w : World} {H : Type} {enc : TypeId × Value → H} {d : DataW H} {p : List MemPlace} (cs : Array Value) (h : DataW.Trod enc Tryd.prog w 0 (fun _ => true) true 36 (.agg cs) d p) (hT : Font.Tab w) :
    Calls Tryd.prog 4 #[.agg cs] w fun e w' => e = .returned (.bool true) ∧ Up w w' := by
  obtain ⟨fuel, hf⟩ := h
  obtain ⟨cl⟩ := cs
  obtain ⟨i, e, h1, h2⟩ := item_open2 (show DataW.trod enc Tryd.prog w 0 (fun _ => true) true fuel 36 cl = some (d, p) from hf)
  subst e
  exact apart_item i w h1 h2 hT

theorem own : ownKnob Tryd.prog.godebug = none := by kernel_rfl
theorem laidOut : laidOutB Tryd.prog = true := by kernel_rfl
set_option maxRecDepth 100000 in
/-- what the walk gives, for every argument and every world that holds the listed variables -/
theorem contract (H : Type) (enc : TypeId × Value → H) (W : World) (base : Nat) (args : Array Value) (ds gs : List (DataW H)) (before : List MemPlace)
    (hval : ∀ (j : Nat) t v, Tryd.f4.params[j]? = some t → args[j]? = some v → Value.okWide Tryd.prog W .any base t v)
    (hW : DataW.Whole enc Tryd.prog Tryd.f4.params.toList Rows.paintApartSpec.vars false W args.toList ds gs before) (hL : laidMetH Tryd.prog Rows.paintApartRow.laid W) :
    Calls Tryd.prog 4 args W fun e W' => ∃ v, e = .returned v ∧ Rows.paintApartSpec.post enc Tryd.prog Tryd.f4 false true false false W args v W' := by
  have hW' := hW
  obtain ⟨p, q, hA0, hV, rfl, hfz, hnd⟩ := hW
  have hA : DataW.TrodAll enc Tryd.prog W 0 (fun _ => true) true Tryd.f4.params.toList args.toList ds p := hA0
  rw [Tryd.params4] at hA hval
  obtain ⟨v0, vs0, d0, ds0, p0, q0, hargs, rfl, rfl, h0, r0⟩ := trodAll_cons hA
  obtain ⟨rfl, rfl, rfl⟩ := trodAll_nil r0
  obtain rfl : args = #[v0] := by cases args; simp_all
  obtain ⟨rfl, rfl⟩ := trodVars_none hV
  have k0 := h0
  have lt0 : ∀ x ∈ p0, x.block < W.heap.size := by obtain ⟨m, hm⟩ := k0; exact DataW.trod_lt m _ _ _ hm
  obtain ⟨cs0, rfl⟩ := itemV_agg h0
  clear hA0 hval
  refine (walk (w := W) cs0 h0 (table hL)).mono fun e W' ⟨he, bel⟩ => ?_
  subst he
  exact ⟨_, rfl, _, _, _, [], _, [], hW', trodAll_mk1 (shut_bool Tryd.underlying4 _), (trodAll_cons_mk (Below.trod laidOut (by kernel_rfl) (of_decide_eq_true (by kernel_rfl)) k0 bel lt0) trodAll_mk0), rfl, bel.frame _, fun h => by cases h⟩
noncomputable def laidWorld (os : Os) : World :=
  { World.holding Tryd.prog os ⟨#[], #[], []⟩ with
    heap := ((World.holding Tryd.prog os ⟨#[], #[], []⟩).heap).modify 0 fun
      | .cells _ t frozen => .cells #[.string ⟨#[67, 111, 117, 114, 105, 101, 114]⟩, .string ⟨#[67, 111, 117, 114, 105, 101, 114, 45, 66, 111, 108, 100]⟩, .string ⟨#[67, 111, 117, 114, 105, 101, 114, 45, 79, 98, 108, 105, 113, 117, 101]⟩, .string ⟨#[67, 111, 117, 114, 105, 101, 114, 45, 66, 111, 108, 100, 79, 98, 108, 105, 113, 117, 101]⟩, .string ⟨#[72, 101, 108, 118, 101, 116, 105, 99, 97]⟩, .string ⟨#[72, 101, 108, 118, 101, 116, 105, 99, 97, 45, 66, 111, 108, 100]⟩, .string ⟨#[72, 101, 108, 118, 101, 116, 105, 99, 97, 45, 79, 98, 108, 105, 113, 117, 101]⟩, .string ⟨#[72, 101, 108, 118, 101, 116, 105, 99, 97, 45, 66, 111, 108, 100, 79, 98, 108, 105, 113, 117, 101]⟩, .string ⟨#[84, 105, 109, 101, 115, 45, 82, 111, 109, 97, 110]⟩, .string ⟨#[84, 105, 109, 101, 115, 45, 66, 111, 108, 100]⟩, .string ⟨#[84, 105, 109, 101, 115, 45, 73, 116, 97, 108, 105, 99]⟩, .string ⟨#[84, 105, 109, 101, 115, 45, 66, 111, 108, 100, 73, 116, 97, 108, 105, 99]⟩, .string ⟨#[83, 121, 109, 98, 111, 108]⟩, .string ⟨#[90, 97, 112, 102, 68, 105, 110, 103, 98, 97, 116, 115]⟩] t frozen
      | o => o }
theorem laid_met (os : Os) : laidMet Tryd.prog Rows.paintApartRow.laid ((laidWorld os).forCall (fun _ _ => 0) ⟨#[], #[.agg #[.int .i64 0, .slice none 0 0, .int .i64 0, .int .i64 0, .int .i64 0, .int .i64 0, .int .i64 0, .slice none 0 0, .int .i64 0, .int .i64 0, .int .i64 0, .int .i64 0, .slice none 0 0, .int .i64 0, .int .i64 0, .int .i64 0, .int .i64 0, .int .i64 0, .int .i64 0, .int .i64 0, .int .i64 0, .slice none 0 0]], []⟩).memory :=
  laidMet_of_run' 8 (by kernel_rfl) (by kernel_rfl)
theorem reads (os : Os) {H : Type} (enc : TypeId × Value → H) : ∃ places, DataW.whole enc Tryd.prog ((laidWorld os).forCall (fun _ _ => 0) ⟨#[], #[.agg #[.int .i64 0, .slice none 0 0, .int .i64 0, .int .i64 0, .int .i64 0, .int .i64 0, .int .i64 0, .slice none 0 0, .int .i64 0, .int .i64 0, .int .i64 0, .int .i64 0, .slice none 0 0, .int .i64 0, .int .i64 0, .int .i64 0, .int .i64 0, .int .i64 0, .int .i64 0, .int .i64 0, .int .i64 0, .slice none 0 0]], []⟩).memory Tryd.f4.params.toList Rows.paintApartSpec.vars false #[(.agg #[.int .i64 0, .slice none 0 0, .int .i64 0, .int .i64 0, .int .i64 0, .int .i64 0, .int .i64 0, .slice none 0 0, .int .i64 0, .int .i64 0, .int .i64 0, .int .i64 0, .slice none 0 0, .int .i64 0, .int .i64 0, .int .i64 0, .int .i64 0, .int .i64 0, .int .i64 0, .int .i64 0, .int .i64 0, .slice none 0 0] : Value)].toList 8 = some ([.agg [.lit (.int .i64 0), .nil, .agg [.lit (.int .i64 0), .agg [.lit (.int .i64 0), .lit (.int .i64 0), .lit (.int .i64 0), .lit (.int .i64 0)]], .nil, .agg [.lit (.int .i64 0), .lit (.int .i64 0), .lit (.int .i64 0), .lit (.int .i64 0), .nil, .lit (.int .i64 0)], .lit (.int .i64 0), .agg [.lit (.int .i64 0), .lit (.int .i64 0), .lit (.int .i64 0), .lit (.int .i64 0), .lit (.int .i64 0), .lit (.int .i64 0)], .nil]], [], places) :=
  ⟨[], by kernel_rfl⟩
set_option maxRecDepth 100000 in
theorem lifted (os : Os) (started : os.Started) (H : Type) (enc : TypeId × Value → H) (F : Stop.Interp) :
    ReturnsInHanded {} Tryd.checked os 4 .any ((OpenSpec.ofChange Rows.paintApartSpec).preRow enc Tryd.prog Tryd.f4 Rows.paintApartRow.domain false Rows.paintApartRow.laid) (((OpenSpec.ofChange Rows.paintApartSpec).at F).post enc Tryd.prog Tryd.f4 false true false false) := by
  obtain ⟨places, hx⟩ := reads os enc
  refine returnsInHanded_of_row (C := Tryd.checked) (s := OpenSpec.ofChange Rows.paintApartSpec) own started (by kernel_rfl) Tryd.func4
    (witness_row_at (enc := enc) (C := Tryd.checked) false (laidWorld os) #[.agg #[.int .i64 0, .slice none 0 0, .int .i64 0, .int .i64 0, .int .i64 0, .int .i64 0, .int .i64 0, .slice none 0 0, .int .i64 0, .int .i64 0, .int .i64 0, .int .i64 0, .slice none 0 0, .int .i64 0, .int .i64 0, .int .i64 0, .int .i64 0, .int .i64 0, .int .i64 0, .int .i64 0, .int .i64 0, .slice none 0 0]] rfl (by kernel_rfl) (by kernel_rfl) (by kernel_rfl)
      (OpenSpec.preRow_of_cond 8 hx (by kernel_rfl) (fun k hk => by cases hk) (by kernel_rfl) (laid_met os))) ?_
  intro W base args ds gs before hval hW _ _ _ hL _ _
  exact contract H enc W base args ds gs before hval hW hL
theorem said : Rows.PaintApartSaid :=
  OpenClaim.holds_of_cond 4 Tryd.f4 rfl rfl rfl rfl rfl rfl rfl ⟨rfl, rfl, rfl, rfl, rfl⟩ rfl rfl rfl rfl rfl (by kernel_rfl) Tryd.func4 (by kernel_rfl)
    (of_decide_eq_true (by kernel_rfl)) (by unfold Func.isWrapper; first | (rw [if_pos (by decide +kernel)]; kernel_rfl) | (rw [if_neg (by decide +kernel)]; exact ⟨rfl, rfl⟩))
    (fun os started H enc _ F => by rw [OpenClaim.pre_eq_preRow]; exact lifted os started H enc F)
theorem plain (f : FuncId) (fn : Func) (hf : Tryd.pinned.checked.prog.funcNamed "mezzotint/mezzotintlaw15.PaintApart" = some f) (hfn : Tryd.pinned.checked.prog.funcs[f]? = some fn) :
    false = Tryd.pinned.checked.prog.looks [] ∧ ∀ (j : Nat) t, fn.params[j]? = some t → Tryd.pinned.checked.prog.wantsStandIn t = false := by
  obtain rfl : f = 4 := Option.some.inj ((show Tryd.prog.funcNamed "mezzotint/mezzotintlaw15.PaintApart" = some 4 by kernel_rfl).symm.trans hf) |>.symm
  obtain rfl : fn = Tryd.f4 := (Option.some.inj (Tryd.func4.symm.trans hfn)).symm
  refine ⟨by kernel_rfl, fun j t ht => ?_⟩
  rw [Tryd.params4] at ht
  have hm : t ∈ [36] := by have := Array.mem_of_getElem? ht; simpa using this
  simp only [List.mem_cons, List.not_mem_nil, or_false] at hm
  subst hm
  exact (show Tryd.prog.wantsStandIn 36 = false by kernel_rfl)
/-- THE CARD -/
theorem card : Rows.PaintApartCardSaid :=
  Claim7.holds_tied_plain_at .later [] _ _ _ _ said (fun _ h => by cases h) (by kernel_rfl) (fun _ h => by cases h) paintApart_row_tie rfl ⟨rfl, rfl⟩ (by kernel_rfl) rfl plain (by kernel_rfl)
#print axioms card
end Go.Proofs.YteddlahklilncaaDoor.paintApart
