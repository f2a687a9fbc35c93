/- PobjNames: for every two strings the law returns true. Its card lists package-level variables of Go's library as their texts lay them. No other condition. -/
import Derived.Test.YtaafelkdhahaoaaDoorPobY
import Derived.Test.YtaafelkdhahaoaaDoorTie
import Derived.Test.YtaafelkdhahaoaaDoorCards
import Derived.Test.YtaafelkdhahaoaaDoorArgs
import Derived.Lib.LaidTab
import Derived.Deep.DeepHandedRow
namespace Go.Proofs.YtaafelkdhahaoaaDoor.pobjNames
open Go.ChangeShapes Go.WideShapes Go.ChangeAt Go.RowKit
open Go.ChangeMaps (open_string shut_string)
open Go.Proofs.YtaafelkdhahaoaaDoor.Pob
set_option linter.unusedVariables false
set_option linter.unusedSimpArgs false

theorem print_ok2 (a X : List UInt8) (hX : 47 :: enc a = X) (hv : namedB a = true) (w : World) :
    Calls Tryd.prog 8 #[nameO a] w fun e w' => ∃ g cap, e = .returned (.tuple #[.slice (some ⟨g, 0, none⟩) X.length cap, .int .i64 0]) ∧ BytesAt w' (.slice (some ⟨g, 0, none⟩) X.length cap) X ∧ X.length ≤ cap ∧ cap ≤ 9223372036854775807 ∧ g < w'.heap.size ∧ Up w w' := by
  subst hX
  refine (print_ok a hv w).mono ?_
  rintro e w' ⟨v, rfl, hb, hu⟩
  obtain ⟨g, cap, rfl, h1, h2, h3, -⟩ := id hb.form
  exact ⟨g, cap, rfl, hb, h1, h2, h3, hu⟩

set_option maxRecDepth 8000 in
set_option maxHeartbeats 1000000 in
theorem walkTT (a b : List UInt8) (ha : namedB a = true) (hb : namedB b = true) {w : World} :
    Calls Tryd.prog 5 #[.string ⟨a.toArray⟩, .string ⟨b.toArray⟩] w fun e w' => e = .returned (.bool true) ∧ Up w w' := by
  obtain ⟨X, hX⟩ : ∃ X, 47 :: enc a = X := ⟨_, rfl⟩
  obtain ⟨Y, hY⟩ : ∃ Y, 47 :: enc b = Y := ⟨_, rfl⟩
  have hX0 : X.getD 0 0 = 47 := by rw [← hX]; rfl
  have hXl : 0 < X.length := by rw [← hX]; simp
  have hXr : ∀ k, 1 ≤ k → k < X.length → regular (X.getD k 0) = true ∧ (X.getD k 0).toNat ≤ 126 := fun k h1 h2 => by
    obtain ⟨j, rfl⟩ : ∃ j, k = j + 1 := ⟨k - 1, by omega⟩
    rw [← hX] at h2 ⊢
    have hj : j < (enc a).length := by simpa using h2
    have := enc_reg a ((enc a)[j]) (List.getElem_mem hj)
    simpa [hj] using this
  have hXY : X = Y ↔ a = b := by
    rw [← hX, ← hY]
    exact ⟨fun h => enc_inj a b (List.cons.inj h).2, fun h => by rw [h]⟩
  have HX := Lib.hid hX
  have HY := Lib.hid hY
  have HA := Lib.hid ha
  have HB := Lib.hid hb
  have HR := Lib.hid hXr
  have HXY := Lib.hid hXY
  have H0 := Lib.hid hX0
  clear hX hY ha hb hXr hXY hX0
  have d1 : decide ((1 : Int) ≤ X.length) = true := decide_eq_true (by omega)
  go_enter Tryd.func5, Tryd.ntmps5
  go_wp2_with (first
    | (go_at_call 8; ((with_reducible refine (print_ok2 a X HX.out HA.out _).mono ?_); rintro e w1 ⟨g1, c1, rfl, hb1, l1, m1, z1, hu1⟩; have HB1 := Lib.hid hb1; clear hb1))
    | (go_at_call 8; ((with_reducible refine (print_ok2 b Y HY.out HB.out _).mono ?_); rintro e w2 ⟨g2, c2, rfl, hb2, l2, m2, z2, hu2⟩; have HB2 := Lib.hid hb2; clear hb2))
    | (go_at_call 6; ((with_reducible refine (answers_calls _).mono ?_); rintro e w3 ⟨rfl, hu3⟩)))
  have HX3 := Lib.hid (HB1.out.up (show Up w1 w3 by (repeat' (first | (with_reducible exact Up.refl _) | (with_reducible assumption) | (with_reducible refine Up.alloc ?_ _) | (with_reducible refine Up.drew ?_) | (with_reducible refine Up.drewN ?_ _) | (with_reducible refine Up.setCell ?_ ?_ _) | (with_reducible refine Up.call ?_ (by with_reducible assumption)) | go_size))))
  have HY3 := Lib.hid (HB2.out.up hu3)
  go_loop [9] (fun s9 => ∃ k : Nat, 1 ≤ k ∧ k ≤ X.length ∧ s9 = .int .i64 k) (fun s9 => X.length - (intOf s9).toNat)
  case atStart => exact ⟨1, by omega, by omega, rfl⟩
  case round =>
    obtain ⟨k, hk1, hk, rfl⟩ := hrel
    obtain ⟨g, cap, e1, -, -, -, cells⟩ := id HX3.out.form
    injection e1 with e1 e2 e3
    injection e1 with e1
    injection e1 with e1
    subst e1 e3
    by_cases hlt : k < X.length
    · have d0 : decide (k < X.length) = true := decide_eq_true hlt
      have ck := cells k hlt
      have hr := HR.out k hk1 hlt
      generalize X.getD k 0 = c at ck hr
      have d2 : decide (126 < (c.toNat : Int)) = false := decide_eq_false (by omega)
      clear cells
      go_wp2_with (go_at_call 15; ((with_reducible refine (regular_calls c hr.1 _).mono ?_); rintro e w' ⟨rfl, rfl⟩))
      go_round
      case rel => exact ⟨k + 1, by omega, by omega, by go_num⟩
      case measure => simp [intOf]; omega
    · have d0 : decide (k < X.length) = false := decide_eq_false hlt
      have c0 := cells 0 hXl
      rw [H0.out] at c0
      have cx := HX3.out.conv
      have cy := HY3.out.conv
      clear cells
      have hq : ((X == Y) == (a == b)) = true := by
        have h1 := HXY.out
        by_cases hab : a = b
        · have h2 := h1.2 hab
          simp [hab, h2]
        · have h2 : ¬ X = Y := fun h => hab (h1.1 h)
          rw [beq_eq_false_iff_ne.2 hab, beq_eq_false_iff_ne.2 h2]; rfl
      have HQ := Lib.hid hq
      clear hq
      go_wp2
      go_ret
      exact ⟨retb HQ.out, by (repeat' (first | (with_reducible exact Up.refl _) | (with_reducible assumption) | (with_reducible refine Up.alloc ?_ _) | (with_reducible refine Up.drew ?_) | (with_reducible refine Up.drewN ?_ _) | (with_reducible refine Up.setCell ?_ ?_ _) | (with_reducible refine Up.call ?_ (by with_reducible assumption)) | go_size))⟩

theorem bad_cases (a : List UInt8) (h : namedB a = false) : (decide ((a.length : Int) < 1) = true) ∨ (decide ((a.length : Int) < 1) = false ∧ decide (127 < (a.length : Int)) = true) ∨ (decide ((a.length : Int) < 1) = false ∧ decide (127 < (a.length : Int)) = false ∧ Hid (a.length ≤ 127 ∧ a.contains 0 = true)) := by
  by_cases h0 : a = []
  · left; subst h0; rfl
  · have h1 : 0 < a.length := List.length_pos_iff.2 h0
    by_cases h2 : a.length ≤ 127
    · right; right
      refine ⟨decide_eq_false (by omega), decide_eq_false (by omega), Lib.hid ⟨h2, ?_⟩⟩
      have h3 : a.isEmpty = false := by simpa using h0
      simpa [namedB, h3, h2] using h
    · right; left
      exact ⟨decide_eq_false (by omega), decide_eq_true (by omega)⟩

set_option maxRecDepth 8000 in
set_option maxHeartbeats 2000000 in
theorem walkFF (a b : List UInt8) (ha : namedB a = false) (hb : namedB b = false) {w : World} :
    Calls Tryd.prog 5 #[.string ⟨a.toArray⟩, .string ⟨b.toArray⟩] w fun e w' => e = .returned (.bool true) ∧ Up w w' := by
  have ca := bad_cases a ha
  have cb := bad_cases b hb
  have HA := Lib.hid ha
  have HB := Lib.hid hb
  clear ha hb
  rcases ca with a1 | ⟨a1, a2⟩ | ⟨a1, a2, HZA⟩
  all_goals rcases cb with b1 | ⟨b1, b2⟩ | ⟨b1, b2, HZB⟩
  all_goals
    go_enter Tryd.func5, Tryd.ntmps5
    go_wp2_with (first
      | (go_at_call 8; ((with_reducible refine (print_bad a HA.out _).mono ?_); rintro e w1 ⟨rfl, hu1⟩))
      | (go_at_call 8; ((with_reducible refine (print_bad b HB.out _).mono ?_); rintro e w2 ⟨rfl, hu2⟩))
      | (go_at_call 6; ((with_reducible refine (answers_calls _).mono ?_); rintro e w3 ⟨rfl, hu3⟩))
      | (go_at_call 14; ((with_reducible refine (zero_calls a HZA.out.1 HZA.out.2 _).mono ?_); rintro e w4 ⟨rfl, rfl⟩))
      | (go_at_call 14; ((with_reducible refine (zero_calls b HZB.out.1 HZB.out.2 _).mono ?_); rintro e w5 ⟨rfl, rfl⟩)))
    go_ret
    exact ⟨rfl, by (repeat' (first | (with_reducible exact Up.refl _) | (with_reducible assumption) | (with_reducible refine Up.alloc ?_ _) | (with_reducible refine Up.drew ?_) | (with_reducible refine Up.drewN ?_ _) | (with_reducible refine Up.setCell ?_ ?_ _) | (with_reducible refine Up.call ?_ (by with_reducible assumption)) | go_size))⟩

set_option maxRecDepth 8000 in
set_option maxHeartbeats 2000000 in
theorem walkFT (a b : List UInt8) (ha : namedB a = false) (hb : namedB b = true) {w : World} :
    Calls Tryd.prog 5 #[.string ⟨a.toArray⟩, .string ⟨b.toArray⟩] w fun e w' => e = .returned (.bool true) ∧ Up w w' := by
  have ca := bad_cases a ha
  have HA := Lib.hid ha
  have HB := Lib.hid hb
  clear ha hb
  rcases ca with a1 | ⟨a1, a2⟩ | ⟨a1, a2, HZA⟩
  all_goals
    go_enter Tryd.func5, Tryd.ntmps5
    go_wp2_with (first
      | (go_at_call 8; ((with_reducible refine (print_bad a HA.out _).mono ?_); rintro e w1 ⟨rfl, hu1⟩))
      | (go_at_call 8; ((with_reducible refine (print_ok2 b _ rfl HB.out _).mono ?_); rintro e w2 ⟨g2, c2, rfl, -, -, -, -, hu2⟩))
      | (go_at_call 6; ((with_reducible refine (answers_calls _).mono ?_); rintro e w3 ⟨rfl, hu3⟩))
      | (go_at_call 14; ((with_reducible refine (zero_calls a HZA.out.1 HZA.out.2 _).mono ?_); rintro e w4 ⟨rfl, rfl⟩))
      | (go_at_call 14; ((with_reducible refine (zero_calls b HZB.out.1 HZB.out.2 _).mono ?_); rintro e w5 ⟨rfl, rfl⟩)))
    go_ret
    exact ⟨rfl, by (repeat' (first | (with_reducible exact Up.refl _) | (with_reducible assumption) | (with_reducible refine Up.alloc ?_ _) | (with_reducible refine Up.drew ?_) | (with_reducible refine Up.drewN ?_ _) | (with_reducible refine Up.setCell ?_ ?_ _) | (with_reducible refine Up.call ?_ (by with_reducible assumption)) | go_size))⟩

set_option maxRecDepth 8000 in
set_option maxHeartbeats 2000000 in
theorem walkTF (a b : List UInt8) (ha : namedB a = true) (hb : namedB b = false) {w : World} :
    Calls Tryd.prog 5 #[.string ⟨a.toArray⟩, .string ⟨b.toArray⟩] w fun e w' => e = .returned (.bool true) ∧ Up w w' := by
  have cb := bad_cases b hb
  have HA := Lib.hid ha
  have HB := Lib.hid hb
  clear ha hb
  rcases cb with b1 | ⟨b1, b2⟩ | ⟨b1, b2, HZB⟩
  all_goals
    go_enter Tryd.func5, Tryd.ntmps5
    go_wp2_with (first
      | (go_at_call 8; ((with_reducible refine (print_ok2 a _ rfl HA.out _).mono ?_); rintro e w1 ⟨g1, c1, rfl, -, -, -, -, hu1⟩))
      | (go_at_call 8; ((with_reducible refine (print_bad b HB.out _).mono ?_); rintro e w2 ⟨rfl, hu2⟩))
      | (go_at_call 6; ((with_reducible refine (answers_calls _).mono ?_); rintro e w3 ⟨rfl, hu3⟩))
      | (go_at_call 14; ((with_reducible refine (zero_calls a HZA.out.1 HZA.out.2 _).mono ?_); rintro e w4 ⟨rfl, rfl⟩))
      | (go_at_call 14; ((with_reducible refine (zero_calls b HZB.out.1 HZB.out.2 _).mono ?_); rintro e w5 ⟨rfl, rfl⟩)))
    go_ret
    exact ⟨rfl, by (repeat' (first | (with_reducible exact Up.refl _) | (with_reducible assumption) | (with_reducible refine Up.alloc ?_ _) | (with_reducible refine Up.drew ?_) | (with_reducible refine Up.drewN ?_ _) | (with_reducible refine Up.setCell ?_ ?_ _) | (with_reducible refine Up.call ?_ (by with_reducible assumption)) | go_size))⟩

theorem table {W : World} (hL : laidMetH Tryd.prog Rows.pobjNamesRow.laid W) : True := trivial

theorem walk {w : World} (a b : ByteArray) (w0 : a.size ≤ maxLen) (w1 : b.size ≤ maxLen) (_ : True) :
    Calls Tryd.prog 5 #[.string a, .string b] w fun e w' => e = .returned (.bool true) ∧ Up w w' := by
  clear w0 w1
  have ha : a = ⟨a.data.toList.toArray⟩ := by cases a; rfl
  have hb : b = ⟨b.data.toList.toArray⟩ := by cases b; rfl
  rw [ha, hb]
  cases h1 : namedB a.data.toList <;> cases h2 : namedB b.data.toList
  · exact walkFF _ _ h1 h2
  · exact walkFT _ _ h1 h2
  · exact walkTF _ _ h1 h2
  · exact walkTT _ _ h1 h2

theorem own : ownKnob Tryd.prog.godebug = none := by kernel_rfl
theorem laidOut : laidOutB Tryd.prog = true := by kernel_rfl
/-- what the walk gives, for every argument and every world that holds the listed variables -/
theorem contract (H : Type) (enc : TypeId × Value → H) (W : World) (base : Nat) (args : Array Value) (ds gs : List (DataW H)) (before : List MemPlace)
    (hval : ∀ (j : Nat) t v, Tryd.f5.params[j]? = some t → args[j]? = some v → Value.okWide Tryd.prog W .any base t v)
    (hW : DataW.Whole enc Tryd.prog Tryd.f5.params.toList Rows.pobjNamesSpec.vars false W args.toList ds gs before) (hL : laidMetH Tryd.prog Rows.pobjNamesRow.laid W) :
    Calls Tryd.prog 5 args W fun e W' => ∃ v, e = .returned v ∧ Rows.pobjNamesSpec.post enc Tryd.prog Tryd.f5 false true false false W args v W' := by
  have hW' := hW
  obtain ⟨p, q, hA0, hV, rfl, hfz, hnd⟩ := hW
  have hA : DataW.TrodAll enc Tryd.prog W 0 (fun _ => true) true Tryd.f5.params.toList args.toList ds p := hA0
  rw [Tryd.params5] at hA hval
  obtain ⟨v0, vs0, d0, ds0, p0, q0, hargs, rfl, rfl, h0, r0⟩ := trodAll_cons hA
  obtain ⟨v1, vs1, d1, ds1, p1, q1, rfl, rfl, rfl, h1, r1⟩ := trodAll_cons r0
  obtain ⟨rfl, rfl, rfl⟩ := trodAll_nil r1
  obtain rfl : args = #[v0, v1] := by cases args; simp_all
  obtain ⟨rfl, rfl⟩ := trodVars_none hV
  have k0 := h0
  have lt0 : ∀ x ∈ p0, x.block < W.heap.size := by obtain ⟨m, hm⟩ := k0; exact DataW.trod_lt m _ _ _ hm
  have k1 := h1
  have lt1 : ∀ x ∈ p1, x.block < W.heap.size := by obtain ⟨m, hm⟩ := k1; exact DataW.trod_lt m _ _ _ hm
  obtain ⟨a0, rfl, rfl, rfl, w0⟩ := open_string Tryd.underlying9 (hval 0 9 v0 rfl rfl) h0
  obtain ⟨a1, rfl, rfl, rfl, w1⟩ := open_string Tryd.underlying9 (hval 1 9 v1 rfl rfl) h1
  clear hA0 hval
  refine (walk (w := W) a0 a1 w0 w1 (table hL)).mono fun e W' ⟨he, bel⟩ => ?_
  subst he
  exact ⟨_, rfl, _, _, _, [], _, [], hW', trodAll_mk1 (shut_bool Tryd.underlying4 _), (trodAll_cons_mk (Below.trod laidOut (by kernel_rfl) (of_decide_eq_true (by kernel_rfl)) k0 bel lt0) (trodAll_cons_mk (Below.trod laidOut (by kernel_rfl) (of_decide_eq_true (by kernel_rfl)) k1 bel lt1) trodAll_mk0)), rfl, bel.frame _, fun h => by cases h⟩
noncomputable def low : Nat := (World.holding Tryd.prog default ⟨#[], #[], []⟩).heap.size
noncomputable def laidWorld (os : Os) : World :=
  { World.holding Tryd.prog os ⟨#[.cells #[.string ⟨#[98, 121, 116, 101, 115, 46, 66, 117, 102, 102, 101, 114, 58, 32, 116, 111, 111, 32, 108, 97, 114, 103, 101]⟩] 114], #[], []⟩ with
    heap := (((((World.holding Tryd.prog os ⟨#[.cells #[.string ⟨#[98, 121, 116, 101, 115, 46, 66, 117, 102, 102, 101, 114, 58, 32, 116, 111, 111, 32, 108, 97, 114, 103, 101]⟩] 114], #[], []⟩).heap).modify 3 fun
      | .cells _ t frozen => .cells #[.int .u8 0, .int .u8 1, .int .u8 28, .int .u8 2, .int .u8 29, .int .u8 14, .int .u8 24, .int .u8 3, .int .u8 30, .int .u8 22, .int .u8 20, .int .u8 15, .int .u8 25, .int .u8 17, .int .u8 4, .int .u8 8, .int .u8 31, .int .u8 27, .int .u8 13, .int .u8 23, .int .u8 21, .int .u8 19, .int .u8 16, .int .u8 7, .int .u8 26, .int .u8 12, .int .u8 18, .int .u8 6, .int .u8 11, .int .u8 5, .int .u8 10, .int .u8 9] t frozen
      | o => o).modify 4 fun
      | .cells _ t frozen => .cells #[.int .u8 0, .int .u8 1, .int .u8 56, .int .u8 2, .int .u8 57, .int .u8 49, .int .u8 28, .int .u8 3, .int .u8 61, .int .u8 58, .int .u8 42, .int .u8 50, .int .u8 38, .int .u8 29, .int .u8 17, .int .u8 4, .int .u8 62, .int .u8 47, .int .u8 59, .int .u8 36, .int .u8 45, .int .u8 43, .int .u8 51, .int .u8 22, .int .u8 53, .int .u8 39, .int .u8 33, .int .u8 30, .int .u8 24, .int .u8 18, .int .u8 12, .int .u8 5, .int .u8 63, .int .u8 55, .int .u8 48, .int .u8 27, .int .u8 60, .int .u8 41, .int .u8 37, .int .u8 16, .int .u8 46, .int .u8 35, .int .u8 44, .int .u8 21, .int .u8 52, .int .u8 32, .int .u8 23, .int .u8 11, .int .u8 54, .int .u8 26, .int .u8 40, .int .u8 15, .int .u8 34, .int .u8 20, .int .u8 31, .int .u8 10, .int .u8 25, .int .u8 14, .int .u8 19, .int .u8 9, .int .u8 13, .int .u8 8, .int .u8 7, .int .u8 6] t frozen
      | o => o).modify 1 fun
      | .cells _ t frozen => .cells #[.int .u64 1, .int .u64 10, .int .u64 100, .int .u64 1000, .int .u64 10000, .int .u64 100000, .int .u64 1000000, .int .u64 10000000, .int .u64 100000000, .int .u64 1000000000, .int .u64 10000000000, .int .u64 100000000000, .int .u64 1000000000000, .int .u64 10000000000000, .int .u64 100000000000000, .int .u64 1000000000000000, .int .u64 10000000000000000, .int .u64 100000000000000000, .int .u64 1000000000000000000, .int .u64 10000000000000000000] t frozen
      | o => o).modify 0 fun
      | .cells _ t frozen => .cells #[.iface 100 (.pointer (some ⟨low + 0, 0, none⟩))] t frozen
      | o => o }
theorem laid_met (os : Os) : laidMet Tryd.prog Rows.pobjNamesRow.laid ((laidWorld os).forCall (fun _ _ => 0) ⟨#[], #[.string ⟨#[]⟩, .string ⟨#[]⟩], []⟩).memory :=
  laidMet_of_run' 8 (by kernel_rfl) (by kernel_rfl)
theorem reads (os : Os) {H : Type} (enc : TypeId × Value → H) : ∃ places, DataW.whole enc Tryd.prog ((laidWorld os).forCall (fun _ _ => 0) ⟨#[], #[.string ⟨#[]⟩, .string ⟨#[]⟩], []⟩).memory Tryd.f5.params.toList Rows.pobjNamesSpec.vars false #[(.string ⟨#[]⟩ : Value), (.string ⟨#[]⟩ : Value)].toList 8 = some ([.lit (.string []), .lit (.string [])], [], places) :=
  ⟨[], by kernel_rfl⟩
set_option maxRecDepth 100000 in
theorem lifted (os : Os) (started : os.Started) (H : Type) (enc : TypeId × Value → H) (F : Stop.Interp) :
    ReturnsInHanded {} Tryd.checked os 5 .any ((OpenSpec.ofChange Rows.pobjNamesSpec).preRow enc Tryd.prog Tryd.f5 Rows.pobjNamesRow.domain false Rows.pobjNamesRow.laid) (((OpenSpec.ofChange Rows.pobjNamesSpec).at F).post enc Tryd.prog Tryd.f5 false true false false) := by
  obtain ⟨places, hx⟩ := reads os enc
  refine returnsInHanded_of_row (C := Tryd.checked) (s := OpenSpec.ofChange Rows.pobjNamesSpec) own started (by kernel_rfl) Tryd.func5
    (witness_row_at (enc := enc) (C := Tryd.checked) false (laidWorld os) #[.string ⟨#[]⟩, .string ⟨#[]⟩] rfl (by kernel_rfl) (by kernel_rfl) (by kernel_rfl)
      (OpenSpec.preRow_of_cond 8 hx (by kernel_rfl) (fun k hk => by cases hk) (by kernel_rfl) (laid_met os))) ?_
  intro W base args ds gs before hval hW _ _ _ hL _ _
  exact contract H enc W base args ds gs before hval hW hL
theorem said : Rows.PobjNamesSaid :=
  OpenClaim.holds_of_cond 5 Tryd.f5 rfl rfl rfl rfl rfl rfl rfl ⟨rfl, rfl, rfl, rfl, rfl⟩ rfl rfl rfl rfl rfl (by kernel_rfl) Tryd.func5 (by kernel_rfl)
    (of_decide_eq_true (by kernel_rfl)) (by unfold Func.isWrapper; first | (rw [if_pos (by decide +kernel)]; kernel_rfl) | (rw [if_neg (by decide +kernel)]; exact ⟨rfl, rfl⟩))
    (fun os started H enc _ F => by rw [OpenClaim.pre_eq_preRow]; exact lifted os started H enc F)
theorem plain (f : FuncId) (fn : Func) (hf : Tryd.pinned.checked.prog.funcNamed "mezzotint/mezzotintlaw18.PobjNames" = some f) (hfn : Tryd.pinned.checked.prog.funcs[f]? = some fn) :
    false = Tryd.pinned.checked.prog.looks [] ∧ ∀ (j : Nat) t, fn.params[j]? = some t → Tryd.pinned.checked.prog.wantsStandIn t = false := by
  obtain rfl : f = 5 := Option.some.inj ((show Tryd.prog.funcNamed "mezzotint/mezzotintlaw18.PobjNames" = some 5 by kernel_rfl).symm.trans hf) |>.symm
  obtain rfl : fn = Tryd.f5 := (Option.some.inj (Tryd.func5.symm.trans hfn)).symm
  refine ⟨by kernel_rfl, fun j t ht => ?_⟩
  rw [Tryd.params5] at ht
  have hm : t ∈ [9, 9] := by have := Array.mem_of_getElem? ht; simpa using this
  simp only [List.mem_cons, List.not_mem_nil, or_false] at hm
  rcases hm with rfl | rfl
  · exact (show Tryd.prog.wantsStandIn 9 = false by kernel_rfl)
  · exact (show Tryd.prog.wantsStandIn 9 = false by kernel_rfl)
/-- THE CARD -/
theorem card : Rows.PobjNamesCardSaid :=
  Claim7.holds_tied_plain_at .later [] _ _ _ _ said (fun _ h => by cases h) (by kernel_rfl) (fun _ h => by cases h) pobjNames_row_tie rfl ⟨rfl, rfl⟩ (by kernel_rfl) rfl plain (by kernel_rfl)
#print axioms card

end Go.Proofs.YtaafelkdhahaoaaDoor.pobjNames
