/- PobjPrints: for every object whose reading is of bulk at most 1048576 the law returns true. Its card lists package-level variables of Go's library as their texts lay them. No other condition. -/
import Derived.Test.YtaafelkdhahaoaaDoorPobQ6
import Derived.Test.YtaafelkdhahaoaaDoorPobY
import Derived.Test.YtaafelkdhahaoaaDoorTie
import Derived.Test.YtaafelkdhahaoaaDoorCards
import Derived.Test.YtaafelkdhahaoaaDoorArgs
import Derived.Lib.LaidTab
import Derived.Deep.DeepHandedRow
namespace Go.Proofs.YtaafelkdhahaoaaDoor.pobjPrints
open Go.ChangeShapes Go.WideShapes Go.ChangeAt Go.RowKit
open Go.ChangeMaps (open_string shut_string)
open Go.Proofs.YtaafelkdhahaoaaDoor.Pob
set_option linter.unusedVariables false
set_option linter.unusedSimpArgs false

theorem pobjV_agg {H : Type} {enc : TypeId × Value → H} {W : World} {v : Value} {d : DataW H} {p : List MemPlace}
    (h : DataW.Trod enc Tryd.prog W 0 (fun _ => true) true 26 v d p) : ∃ cs, v = .agg cs := by
  obtain ⟨fuel, hf⟩ := h
  obtain ⟨n, hl, -⟩ := trod_field Tryd.underlying26 hf
  rw [ptPO] at hl
  clear hf
  cases v <;> first | exact ⟨_, rfl⟩ | (simp [Value.cells] at hl)

set_option maxRecDepth 8000 in
set_option maxHeartbeats 2000000 in
theorem walk_dark (o : PO) (w : World) (h : POk w o) (hv : lightR 41 o = false) : Calls Tryd.prog 3 #[.agg o.cells.toArray] w fun e w' => e = .returned (.bool true) ∧ Up w w' := by
  have HL := Lib.hid (fun (W : World) (hu : Up w W) => light_calls 41 o 40 W rfl (h.up hu) (by decide))
  rw [hv] at HL
  obtain ⟨k, n, t, ka, kl, kc, ks, la, ll, lc, l, da, dl, dc, d⟩ := o
  have HL2 : Hid (∀ W, Up w W → Calls Tryd.prog 7 #[.agg #[.int .i64 k, .int .i64 n, .string ⟨t.toArray⟩, .slice ka kl kc, .slice la ll lc, .slice da dl dc], .int .i64 40] W fun e w' => e = .returned (.bool false) ∧ Up W w') := HL
  show Calls _ _ #[.agg #[.int .i64 k, .int .i64 n, .string ⟨t.toArray⟩, .slice ka kl kc, .slice la ll lc, .slice da dl dc]] _ _
  clear HL h hv
  go_enter Tryd.func3, Tryd.ntmps3
  go_wp2_with (first
    | (go_at_call 6; ((with_reducible refine (answers_calls _).mono ?_); rintro e w1 ⟨rfl, hu1⟩; have HX1 := Lib.hid (BoxAt.up (BoxAt.new w #[.int .i64 k, .int .i64 n, .string ⟨t.toArray⟩, .slice ka kl kc, .slice la ll lc, .slice da dl dc]) hu1); have b10 := HX1.out.cell 0 rfl; have b11 := HX1.out.cell 1 rfl; have b12 := HX1.out.cell 2 rfl; have b13 := HX1.out.cell 3 rfl; have b14 := HX1.out.cell 4 rfl; have b15 := HX1.out.cell 5 rfl; have lb1 := HX1.out.lt))
    | (go_at_call 7; ((with_reducible refine Calls.mono (HL2.out _ ?_) ?_); (focus ((repeat' (first | (with_reducible exact Up.refl _) | (with_reducible assumption) | (with_reducible refine Up.alloc ?_ _) | (with_reducible refine Up.drew ?_) | (with_reducible refine Up.drewN ?_ _) | (with_reducible refine Up.setCell ?_ ?_ _) | (with_reducible refine Up.call ?_ (by with_reducible assumption)) | go_size)))); rintro e w2 ⟨rfl, hu2⟩))
    | (go_at_call 6; ((with_reducible refine (answers_calls _).mono ?_); rintro e w3 ⟨rfl, hu3⟩)))
  go_ret
  exact ⟨rfl, by (repeat' (first | (with_reducible exact Up.refl _) | (with_reducible assumption) | (with_reducible refine Up.alloc ?_ _) | (with_reducible refine Up.drew ?_) | (with_reducible refine Up.drewN ?_ _) | (with_reducible refine Up.setCell ?_ ?_ _) | (with_reducible refine Up.call ?_ (by with_reducible assumption)) | go_size))⟩

set_option maxRecDepth 8000 in
set_option maxHeartbeats 2000000 in
theorem walk_bad (o : PO) (w : World) (h : POk w o) (hv : lightR 41 o = true) (hs : sndR 32 true o = false) : Calls Tryd.prog 3 #[.agg o.cells.toArray] w fun e w' => e = .returned (.bool true) ∧ Up w w' := by
  have HL := Lib.hid (fun (W : World) (hu : Up w W) => light_calls 41 o 40 W rfl (h.up hu) (by decide))
  rw [hv] at HL
  have HP := Lib.hid (fun (W : World) (hu : Up w W) => pprint_bad 41 o W (h.up hu) hv hs)
  have HS := Lib.hid (fun (W : World) (hu : Up w W) => pSound_calls 41 o W (h.up hu) hv)
  have HR := Lib.hid (fun (W : World) (hu : Up w W) => rSound_calls 41 o W (h.up hu) hv)
  rw [hs] at HS HR
  obtain ⟨k, n, t, ka, kl, kc, ks, la, ll, lc, l, da, dl, dc, d⟩ := o
  have HL2 : Hid (∀ W, Up w W → Calls Tryd.prog 7 #[.agg #[.int .i64 k, .int .i64 n, .string ⟨t.toArray⟩, .slice ka kl kc, .slice la ll lc, .slice da dl dc], .int .i64 40] W fun e w' => e = .returned (.bool true) ∧ Up W w') := HL
  have HS2 : Hid (∀ W, Up w W → Calls Tryd.prog 10 #[.agg #[.int .i64 k, .int .i64 n, .string ⟨t.toArray⟩, .slice ka kl kc, .slice la ll lc, .slice da dl dc]] W fun e w' => e = .returned (.bool false) ∧ Up W w') := HS
  have HR2 : Hid (∀ W, Up w W → Calls Tryd.prog 9 #[.agg #[.int .i64 k, .int .i64 n, .string ⟨t.toArray⟩, .slice ka kl kc, .slice la ll lc, .slice da dl dc]] W fun e w' => e = .returned (.bool false) ∧ Up W w') := HR
  have HP2 : Hid (∀ W, Up w W → Calls Tryd.prog 8 #[.agg #[.int .i64 k, .int .i64 n, .string ⟨t.toArray⟩, .slice ka kl kc, .slice la ll lc, .slice da dl dc]] W fun e w' => e = .returned (.tuple #[.slice none 0 0, .int .i64 22]) ∧ Up W w') := HP
  show Calls _ _ #[.agg #[.int .i64 k, .int .i64 n, .string ⟨t.toArray⟩, .slice ka kl kc, .slice la ll lc, .slice da dl dc]] _ _
  clear HL HP HS HR h hv hs
  go_enter Tryd.func3, Tryd.ntmps3
  go_wp2_with (first
    | (go_at_call 6; ((with_reducible refine (answers_calls _).mono ?_); rintro e w1 ⟨rfl, hu1⟩; have HX1 := Lib.hid (BoxAt.up (BoxAt.new w #[.int .i64 k, .int .i64 n, .string ⟨t.toArray⟩, .slice ka kl kc, .slice la ll lc, .slice da dl dc]) hu1); have b10 := HX1.out.cell 0 rfl; have b11 := HX1.out.cell 1 rfl; have b12 := HX1.out.cell 2 rfl; have b13 := HX1.out.cell 3 rfl; have b14 := HX1.out.cell 4 rfl; have b15 := HX1.out.cell 5 rfl; have lb1 := HX1.out.lt))
    | (go_at_call 7; ((with_reducible refine Calls.mono (HL2.out _ ?_) ?_); (focus ((repeat' (first | (with_reducible exact Up.refl _) | (with_reducible assumption) | (with_reducible refine Up.alloc ?_ _) | (with_reducible refine Up.drew ?_) | (with_reducible refine Up.drewN ?_ _) | (with_reducible refine Up.setCell ?_ ?_ _) | (with_reducible refine Up.call ?_ (by with_reducible assumption)) | go_size)))); rintro e w2 ⟨rfl, hu2⟩; have HX2 := Lib.hid (BoxAt.up HX1.out hu2); have b20 := HX2.out.cell 0 rfl; have b21 := HX2.out.cell 1 rfl; have b22 := HX2.out.cell 2 rfl; have b23 := HX2.out.cell 3 rfl; have b24 := HX2.out.cell 4 rfl; have b25 := HX2.out.cell 5 rfl; have lb2 := HX2.out.lt))
    | (go_at_call 9; ((with_reducible refine Calls.mono (HR2.out _ ?_) ?_); (focus ((repeat' (first | (with_reducible exact Up.refl _) | (with_reducible assumption) | (with_reducible refine Up.alloc ?_ _) | (with_reducible refine Up.drew ?_) | (with_reducible refine Up.drewN ?_ _) | (with_reducible refine Up.setCell ?_ ?_ _) | (with_reducible refine Up.call ?_ (by with_reducible assumption)) | go_size)))); rintro e w4 ⟨rfl, hu4⟩; have HX4 := Lib.hid (BoxAt.up HX3.out hu4); have b40 := HX4.out.cell 0 rfl; have b41 := HX4.out.cell 1 rfl; have b42 := HX4.out.cell 2 rfl; have b43 := HX4.out.cell 3 rfl; have b44 := HX4.out.cell 4 rfl; have b45 := HX4.out.cell 5 rfl; have lb4 := HX4.out.lt))
    | (go_at_call 10; ((with_reducible refine Calls.mono (HS2.out _ ?_) ?_); (focus ((repeat' (first | (with_reducible exact Up.refl _) | (with_reducible assumption) | (with_reducible refine Up.alloc ?_ _) | (with_reducible refine Up.drew ?_) | (with_reducible refine Up.drewN ?_ _) | (with_reducible refine Up.setCell ?_ ?_ _) | (with_reducible refine Up.call ?_ (by with_reducible assumption)) | go_size)))); rintro e w5 ⟨rfl, hu5⟩; have HX5 := Lib.hid (BoxAt.up HX4.out hu5); have b50 := HX5.out.cell 0 rfl; have b51 := HX5.out.cell 1 rfl; have b52 := HX5.out.cell 2 rfl; have b53 := HX5.out.cell 3 rfl; have b54 := HX5.out.cell 4 rfl; have b55 := HX5.out.cell 5 rfl; have lb5 := HX5.out.lt))
    | (go_at_call 8; ((with_reducible refine Calls.mono (HP2.out _ ?_) ?_); (focus ((repeat' (first | (with_reducible exact Up.refl _) | (with_reducible assumption) | (with_reducible refine Up.alloc ?_ _) | (with_reducible refine Up.drew ?_) | (with_reducible refine Up.drewN ?_ _) | (with_reducible refine Up.setCell ?_ ?_ _) | (with_reducible refine Up.call ?_ (by with_reducible assumption)) | go_size)))); rintro e w3 ⟨rfl, hu3⟩; have HX3 := Lib.hid (BoxAt.up HX2.out hu3); have b30 := HX3.out.cell 0 rfl; have b31 := HX3.out.cell 1 rfl; have b32 := HX3.out.cell 2 rfl; have b33 := HX3.out.cell 3 rfl; have b34 := HX3.out.cell 4 rfl; have b35 := HX3.out.cell 5 rfl; have lb3 := HX3.out.lt)))
  go_ret
  exact ⟨rfl, by (repeat' (first | (with_reducible exact Up.refl _) | (with_reducible assumption) | (with_reducible refine Up.alloc ?_ _) | (with_reducible refine Up.drew ?_) | (with_reducible refine Up.drewN ?_ _) | (with_reducible refine Up.setCell ?_ ?_ _) | (with_reducible refine Up.call ?_ (by with_reducible assumption)) | go_size))⟩

set_option maxRecDepth 8000 in
set_option maxHeartbeats 2000000 in
theorem walk_ok (o : PO) (w : World) (h : POk w o) (hv : lightR 41 o = true) (hs : sndR 32 true o = true) (ht : PTab w) (hb : bulk 33 o ≤ 1048576) : Calls Tryd.prog 3 #[.agg o.cells.toArray] w fun e w' => e = .returned (.bool true) ∧ Up w w' := by
  have hlen : (prn 32 o).length ≤ 140737480000000 := by
    have : (prn 32 o).length + 1 ≤ 100010 * bulk 33 o := prn_bulk 32 true 41 o w h hv hs
    omega
  have HL := Lib.hid (fun (W : World) (hu : Up w W) => light_calls 41 o 40 W rfl (h.up hu) (by decide))
  rw [hv] at HL
  have HP := Lib.hid (fun (W : World) (hu : Up w W) => pprint_ok 41 o W (h.up hu) hv hs (ht.up hu) hlen)
  have HQ := Lib.hid (fun (W : World) (hu : Up w W) => rprint_all 32 true 41 o w h hv hs hlen W hu)
  have HS := Lib.hid (fun (W : World) (hu : Up w W) => pSound_calls 41 o W (h.up hu) hv)
  have HR := Lib.hid (fun (W : World) (hu : Up w W) => rSound_calls 41 o W (h.up hu) hv)
  rw [hs] at HS HR
  obtain ⟨R, hR⟩ : ∃ R, prn 32 o = R := ⟨_, rfl⟩
  rw [hR] at HP HQ
  obtain ⟨k, n, t, ka, kl, kc, ks, la, ll, lc, l, da, dl, dc, d⟩ := o
  have HL2 : Hid (∀ W, Up w W → Calls Tryd.prog 7 #[.agg #[.int .i64 k, .int .i64 n, .string ⟨t.toArray⟩, .slice ka kl kc, .slice la ll lc, .slice da dl dc], .int .i64 40] W fun e w' => e = .returned (.bool true) ∧ Up W w') := HL
  have HS2 : Hid (∀ W, Up w W → Calls Tryd.prog 10 #[.agg #[.int .i64 k, .int .i64 n, .string ⟨t.toArray⟩, .slice ka kl kc, .slice la ll lc, .slice da dl dc]] W fun e w' => e = .returned (.bool true) ∧ Up W w') := HS
  have HR2 : Hid (∀ W, Up w W → Calls Tryd.prog 9 #[.agg #[.int .i64 k, .int .i64 n, .string ⟨t.toArray⟩, .slice ka kl kc, .slice la ll lc, .slice da dl dc]] W fun e w' => e = .returned (.bool true) ∧ Up W w') := HR
  have HP2 : Hid (∀ W, Up w W → Calls Tryd.prog 8 #[.agg #[.int .i64 k, .int .i64 n, .string ⟨t.toArray⟩, .slice ka kl kc, .slice la ll lc, .slice da dl dc]] W fun e w' => ∃ v, e = .returned (.tuple #[v, .int .i64 0]) ∧ BytesAt w' v R ∧ Up W w') := HP
  have HQ2 : Hid (∀ W, Up w W → Calls Tryd.prog 11 #[.agg #[.int .i64 k, .int .i64 n, .string ⟨t.toArray⟩, .slice ka kl kc, .slice la ll lc, .slice da dl dc]] W fun e w' => e = .returned (.string ⟨R.toArray⟩) ∧ Up W w') := HQ
  show Calls _ _ #[.agg #[.int .i64 k, .int .i64 n, .string ⟨t.toArray⟩, .slice ka kl kc, .slice la ll lc, .slice da dl dc]] _ _
  clear HL HP HS HR HQ h hv hs hR ht hb hlen
  go_enter Tryd.func3, Tryd.ntmps3
  go_wp2_with (first
    | (go_at_call 6; ((with_reducible refine (answers_calls _).mono ?_); rintro e w1 ⟨rfl, hu1⟩; have HX1 := Lib.hid (BoxAt.up (BoxAt.new w #[.int .i64 k, .int .i64 n, .string ⟨t.toArray⟩, .slice ka kl kc, .slice la ll lc, .slice da dl dc]) hu1); have b10 := HX1.out.cell 0 rfl; have b11 := HX1.out.cell 1 rfl; have b12 := HX1.out.cell 2 rfl; have b13 := HX1.out.cell 3 rfl; have b14 := HX1.out.cell 4 rfl; have b15 := HX1.out.cell 5 rfl; have lb1 := HX1.out.lt))
    | (go_at_call 7; ((with_reducible refine Calls.mono (HL2.out _ ?_) ?_); (focus ((repeat' (first | (with_reducible exact Up.refl _) | (with_reducible assumption) | (with_reducible refine Up.alloc ?_ _) | (with_reducible refine Up.drew ?_) | (with_reducible refine Up.drewN ?_ _) | (with_reducible refine Up.setCell ?_ ?_ _) | (with_reducible refine Up.call ?_ (by with_reducible assumption)) | go_size)))); rintro e w2 ⟨rfl, hu2⟩; have HX2 := Lib.hid (BoxAt.up HX1.out hu2); have b20 := HX2.out.cell 0 rfl; have b21 := HX2.out.cell 1 rfl; have b22 := HX2.out.cell 2 rfl; have b23 := HX2.out.cell 3 rfl; have b24 := HX2.out.cell 4 rfl; have b25 := HX2.out.cell 5 rfl; have lb2 := HX2.out.lt))
    | (go_at_call 9; ((with_reducible refine Calls.mono (HR2.out _ ?_) ?_); (focus ((repeat' (first | (with_reducible exact Up.refl _) | (with_reducible assumption) | (with_reducible refine Up.alloc ?_ _) | (with_reducible refine Up.drew ?_) | (with_reducible refine Up.drewN ?_ _) | (with_reducible refine Up.setCell ?_ ?_ _) | (with_reducible refine Up.call ?_ (by with_reducible assumption)) | go_size)))); rintro e w4 ⟨rfl, hu4⟩; have HX4 := Lib.hid (BoxAt.up HX3.out hu4); have b40 := HX4.out.cell 0 rfl; have b41 := HX4.out.cell 1 rfl; have b42 := HX4.out.cell 2 rfl; have b43 := HX4.out.cell 3 rfl; have b44 := HX4.out.cell 4 rfl; have b45 := HX4.out.cell 5 rfl; have lb4 := HX4.out.lt))
    | (go_at_call 10; ((with_reducible refine Calls.mono (HS2.out _ ?_) ?_); (focus ((repeat' (first | (with_reducible exact Up.refl _) | (with_reducible assumption) | (with_reducible refine Up.alloc ?_ _) | (with_reducible refine Up.drew ?_) | (with_reducible refine Up.drewN ?_ _) | (with_reducible refine Up.setCell ?_ ?_ _) | (with_reducible refine Up.call ?_ (by with_reducible assumption)) | go_size)))); rintro e w5 ⟨rfl, hu5⟩; have HX5 := Lib.hid (BoxAt.up HX4.out hu5); have b50 := HX5.out.cell 0 rfl; have b51 := HX5.out.cell 1 rfl; have b52 := HX5.out.cell 2 rfl; have b53 := HX5.out.cell 3 rfl; have b54 := HX5.out.cell 4 rfl; have b55 := HX5.out.cell 5 rfl; have lb5 := HX5.out.lt))
    | (go_at_call 8; ((with_reducible refine Calls.mono (HP2.out _ ?_) ?_); (focus ((repeat' (first | (with_reducible exact Up.refl _) | (with_reducible assumption) | (with_reducible refine Up.alloc ?_ _) | (with_reducible refine Up.drew ?_) | (with_reducible refine Up.drewN ?_ _) | (with_reducible refine Up.setCell ?_ ?_ _) | (with_reducible refine Up.call ?_ (by with_reducible assumption)) | go_size)))); rintro e w3 ⟨v, rfl, hbv, hu3⟩; have HBV := Lib.hid hbv; obtain ⟨g9, c9, rfl, -⟩ := id hbv.form; have HX3 := Lib.hid (BoxAt.up HX2.out hu3); clear hbv; have b30 := HX3.out.cell 0 rfl; have b31 := HX3.out.cell 1 rfl; have b32 := HX3.out.cell 2 rfl; have b33 := HX3.out.cell 3 rfl; have b34 := HX3.out.cell 4 rfl; have b35 := HX3.out.cell 5 rfl; have lb3 := HX3.out.lt)))
  have cv5 : (convert 24 9 (.slice (some ⟨g9, 0, none⟩) R.length c9)).run Tryd.prog w5.drew = .ok (.string ⟨R.toArray⟩) w5.drew := (HBV.out.up (show Up w3 w5.drew by (repeat' (first | (with_reducible exact Up.refl _) | (with_reducible assumption) | (with_reducible refine Up.alloc ?_ _) | (with_reducible refine Up.drew ?_) | (with_reducible refine Up.drewN ?_ _) | (with_reducible refine Up.setCell ?_ ?_ _) | (with_reducible refine Up.call ?_ (by with_reducible assumption)) | go_size)))).conv
  go_region_law (go_simp; go_at_call 11; ((with_reducible refine Calls.mono (HQ2.out _ ?_) ?_); (focus ((repeat' (first | (with_reducible exact Up.refl _) | (with_reducible assumption) | (with_reducible refine Up.alloc ?_ _) | (with_reducible refine Up.drew ?_) | (with_reducible refine Up.drewN ?_ _) | (with_reducible refine Up.setCell ?_ ?_ _) | (with_reducible refine Up.call ?_ (by with_reducible assumption)) | go_size)))); rintro e w6 ⟨rfl, hu6⟩; have cv6 : (convert 24 9 (.slice (some ⟨g9, 0, none⟩) R.length c9)).run Tryd.prog w6 = .ok (.string ⟨R.toArray⟩) w6 := (HBV.out.up (show Up w3 w6 by (repeat' (first | (with_reducible exact Up.refl _) | (with_reducible assumption) | (with_reducible refine Up.alloc ?_ _) | (with_reducible refine Up.drew ?_) | (with_reducible refine Up.drewN ?_ _) | (with_reducible refine Up.setCell ?_ ?_ _) | (with_reducible refine Up.call ?_ (by with_reducible assumption)) | go_size)))).conv))
  all_goals
    go_wp2
    go_ret
    exact ⟨rfl, by (repeat' (first | (with_reducible exact Up.refl _) | (with_reducible assumption) | (with_reducible refine Up.alloc ?_ _) | (with_reducible refine Up.drew ?_) | (with_reducible refine Up.drewN ?_ _) | (with_reducible refine Up.setCell ?_ ?_ _) | (with_reducible refine Up.call ?_ (by with_reducible assumption)) | go_size))⟩

theorem tab_third {P : Program} {W : World} {name : String} {k : IntKind} {zs : List Int} {a b : String × DataW Unit} {rest : List (String × DataW Unit)} {g : Nat} {t e : TypeId} {n : Nat}
    (hg : P.globalNamed name = some g) (hty : (P.globals[g]?).map (·.type) = some t) (ht : P.underlying t = some (.array n e)) (he : P.underlying e = some (.int k)) (hce : P.cellsOf e = 1) (hct : P.cellsOf t = n)
    (h : laidMet P (a :: b :: (name, Lib.tabData k zs) :: rest) W) : Lib.TabIs P W name k zs := by
  obtain ⟨a1, a2⟩ := a
  obtain ⟨b1, b2⟩ := b
  obtain ⟨ps, ⟨_, _, _, _, _, q1, _, _, _, _, ⟨_, _, _, _, _, q2, _, _, _, _, ⟨g', t', cs, fuel, p, q, hg', ht', hvar, hd, _, _⟩, _⟩, _⟩, _⟩ := h
  obtain rfl := Option.some.inj (hg.symm.trans hg')
  obtain rfl := Option.some.inj (hty.symm.trans ht')
  unfold Lib.TabIs
  rw [hvar, ← Lib.cells_of_tab ht he hce hct hd]
theorem table {W : World} (hL : laidMetH Tryd.prog Rows.pobjPrintsRow.laid W) : PTab W := by
  have h' : laidMet Tryd.prog [("math/bits.deBruijn32tab", Rows.laid_math_bits_deBruijn32tab), ("math/bits.deBruijn64tab", Rows.laid_math_bits_deBruijn64tab), ("internal/strconv.uint64pow10", Lib.tabData .u64 Lib.pow10Tab), ("bytes.ErrTooLarge", Rows.laid_bytes_ErrTooLarge)] W := hL
  exact tab_third (g := 1) (t := 91) (e := 65) (n := 20) (by kernel_rfl) (by kernel_rfl) Tryd.underlying91 Tryd.underlying65 (by kernel_rfl) (by kernel_rfl) h'

theorem walk {H : Type} {enc : TypeId × Value → H} {w : World} {d0 : DataW H} {p0 : List MemPlace} (cs : Array Value) (h : DataW.Trod enc Tryd.prog w 0 (fun _ => true) true 26 (.agg cs) d0 p0) (hk : Rows.uptoBulk d0 ≤ 1048576) (ht : PTab w) :
    Calls Tryd.prog 3 #[.agg cs] w fun e w' => e = .returned (.bool true) ∧ Up w w' := by
  obtain ⟨fuel, hf⟩ := h
  obtain ⟨o, e, ho, hb⟩ := pobj_open fuel _ _ hf
  obtain rfl : cs = o.cells.toArray := by
    rw [← e]
    simp [Value.cells]
  have hb33 := Nat.le_trans (hb 33) hk
  cases hv : lightR 41 o
  · exact walk_dark o w ho hv
  · cases hs : sndR 32 true o
    · exact walk_bad o w ho hv hs
    · exact walk_ok o w ho hv hs ht hb33

theorem own : ownKnob Tryd.prog.godebug = none := by kernel_rfl
theorem laidOut : laidOutB Tryd.prog = true := by kernel_rfl
set_option maxRecDepth 100000 in
/-- what the walk gives, for every argument and every world that holds the listed variables -/
theorem contract (H : Type) (enc : TypeId × Value → H) (W : World) (base : Nat) (args : Array Value) (ds gs : List (DataW H)) (before : List MemPlace)
    (hval : ∀ (j : Nat) t v, Tryd.f3.params[j]? = some t → args[j]? = some v → Value.okWide Tryd.prog W .any base t v)
    (hW : DataW.Whole enc Tryd.prog Tryd.f3.params.toList Rows.pobjPrintsSpec.vars false W args.toList ds gs before) (hL : laidMetH Tryd.prog Rows.pobjPrintsRow.laid W) (hk : Rows.uptoSmall H (ds ++ gs) = true) :
    Calls Tryd.prog 3 args W fun e W' => ∃ v, e = .returned v ∧ Rows.pobjPrintsSpec.post enc Tryd.prog Tryd.f3 false true false false W args v W' := by
  have hW' := hW
  obtain ⟨p, q, hA0, hV, rfl, hfz, hnd⟩ := hW
  have hA : DataW.TrodAll enc Tryd.prog W 0 (fun _ => true) true Tryd.f3.params.toList args.toList ds p := hA0
  rw [Tryd.params3] at hA hval
  obtain ⟨v0, vs0, d0, ds0, p0, q0, hargs, rfl, rfl, h0, r0⟩ := trodAll_cons hA
  obtain ⟨rfl, rfl, rfl⟩ := trodAll_nil r0
  obtain rfl : args = #[v0] := by cases args; simp_all
  obtain ⟨rfl, rfl⟩ := trodVars_none hV
  have k0 := h0
  have lt0 : ∀ x ∈ p0, x.block < W.heap.size := by obtain ⟨m, hm⟩ := k0; exact DataW.trod_lt m _ _ _ hm
  have hk9 := of_decide_eq_true hk
  simp only [List.cons_append, List.nil_append, List.append_nil, Rows.uptoBulkAll] at hk9
  have hk0 : Rows.uptoBulk d0 ≤ 1048576 := by omega
  obtain ⟨cs0, rfl⟩ := pobjV_agg h0
  clear hA0 hval
  refine (walk (w := W) cs0 h0 hk0 (table hL)).mono fun e W' ⟨he, bel⟩ => ?_
  subst he
  exact ⟨_, rfl, _, _, _, [], _, [], hW', trodAll_mk1 (shut_bool Tryd.underlying4 _), (trodAll_cons_mk (Below.trod laidOut (by kernel_rfl) (of_decide_eq_true (by kernel_rfl)) k0 bel lt0) trodAll_mk0), rfl, bel.frame _, fun h => by cases h⟩
noncomputable def low : Nat := (World.holding Tryd.prog default ⟨#[], #[], []⟩).heap.size
noncomputable def laidWorld (os : Os) : World :=
  { World.holding Tryd.prog os ⟨#[.cells #[.string ⟨#[98, 121, 116, 101, 115, 46, 66, 117, 102, 102, 101, 114, 58, 32, 116, 111, 111, 32, 108, 97, 114, 103, 101]⟩] 114], #[], []⟩ with
    heap := (((((World.holding Tryd.prog os ⟨#[.cells #[.string ⟨#[98, 121, 116, 101, 115, 46, 66, 117, 102, 102, 101, 114, 58, 32, 116, 111, 111, 32, 108, 97, 114, 103, 101]⟩] 114], #[], []⟩).heap).modify 3 fun
      | .cells _ t frozen => .cells #[.int .u8 0, .int .u8 1, .int .u8 28, .int .u8 2, .int .u8 29, .int .u8 14, .int .u8 24, .int .u8 3, .int .u8 30, .int .u8 22, .int .u8 20, .int .u8 15, .int .u8 25, .int .u8 17, .int .u8 4, .int .u8 8, .int .u8 31, .int .u8 27, .int .u8 13, .int .u8 23, .int .u8 21, .int .u8 19, .int .u8 16, .int .u8 7, .int .u8 26, .int .u8 12, .int .u8 18, .int .u8 6, .int .u8 11, .int .u8 5, .int .u8 10, .int .u8 9] t frozen
      | o => o).modify 4 fun
      | .cells _ t frozen => .cells #[.int .u8 0, .int .u8 1, .int .u8 56, .int .u8 2, .int .u8 57, .int .u8 49, .int .u8 28, .int .u8 3, .int .u8 61, .int .u8 58, .int .u8 42, .int .u8 50, .int .u8 38, .int .u8 29, .int .u8 17, .int .u8 4, .int .u8 62, .int .u8 47, .int .u8 59, .int .u8 36, .int .u8 45, .int .u8 43, .int .u8 51, .int .u8 22, .int .u8 53, .int .u8 39, .int .u8 33, .int .u8 30, .int .u8 24, .int .u8 18, .int .u8 12, .int .u8 5, .int .u8 63, .int .u8 55, .int .u8 48, .int .u8 27, .int .u8 60, .int .u8 41, .int .u8 37, .int .u8 16, .int .u8 46, .int .u8 35, .int .u8 44, .int .u8 21, .int .u8 52, .int .u8 32, .int .u8 23, .int .u8 11, .int .u8 54, .int .u8 26, .int .u8 40, .int .u8 15, .int .u8 34, .int .u8 20, .int .u8 31, .int .u8 10, .int .u8 25, .int .u8 14, .int .u8 19, .int .u8 9, .int .u8 13, .int .u8 8, .int .u8 7, .int .u8 6] t frozen
      | o => o).modify 1 fun
      | .cells _ t frozen => .cells #[.int .u64 1, .int .u64 10, .int .u64 100, .int .u64 1000, .int .u64 10000, .int .u64 100000, .int .u64 1000000, .int .u64 10000000, .int .u64 100000000, .int .u64 1000000000, .int .u64 10000000000, .int .u64 100000000000, .int .u64 1000000000000, .int .u64 10000000000000, .int .u64 100000000000000, .int .u64 1000000000000000, .int .u64 10000000000000000, .int .u64 100000000000000000, .int .u64 1000000000000000000, .int .u64 10000000000000000000] t frozen
      | o => o).modify 0 fun
      | .cells _ t frozen => .cells #[.iface 100 (.pointer (some ⟨low + 0, 0, none⟩))] t frozen
      | o => o }
theorem laid_met (os : Os) : laidMet Tryd.prog Rows.pobjPrintsRow.laid ((laidWorld os).forCall (fun _ _ => 0) ⟨#[], #[.agg #[.int .i64 0, .int .i64 0, .string ⟨#[]⟩, .slice none 0 0, .slice none 0 0, .slice none 0 0]], []⟩).memory :=
  laidMet_of_run' 8 (by kernel_rfl) (by kernel_rfl)
theorem reads (os : Os) {H : Type} (enc : TypeId × Value → H) : ∃ places, DataW.whole enc Tryd.prog ((laidWorld os).forCall (fun _ _ => 0) ⟨#[], #[.agg #[.int .i64 0, .int .i64 0, .string ⟨#[]⟩, .slice none 0 0, .slice none 0 0, .slice none 0 0]], []⟩).memory Tryd.f3.params.toList Rows.pobjPrintsSpec.vars false #[(.agg #[.int .i64 0, .int .i64 0, .string ⟨#[]⟩, .slice none 0 0, .slice none 0 0, .slice none 0 0] : Value)].toList 8 = some ([.agg [.lit (.int .i64 0), .lit (.int .i64 0), .lit (.string []), .nil, .nil, .nil]], [], places) :=
  ⟨[], by kernel_rfl⟩
set_option maxRecDepth 100000 in
theorem liftedUpto (os : Os) (started : os.Started) (H : Type) (enc : TypeId × Value → H) (F : Stop.Interp) :
    ReturnsInHanded {} Tryd.checked os 3 .any ((Rows.OpenSpec.upto Rows.pobjPrintsSpec).preRow enc Tryd.prog Tryd.f3 Rows.pobjPrintsUptoRow.domain false Rows.pobjPrintsUptoRow.laid) (((Rows.OpenSpec.upto Rows.pobjPrintsSpec).at F).post enc Tryd.prog Tryd.f3 false true false false) := by
  obtain ⟨places, hx⟩ := reads os enc
  refine returnsInHanded_of_row (C := Tryd.checked) (s := Rows.OpenSpec.upto Rows.pobjPrintsSpec) own started (by kernel_rfl) Tryd.func3
    (witness_row_at (enc := enc) (C := Tryd.checked) false (laidWorld os) #[.agg #[.int .i64 0, .int .i64 0, .string ⟨#[]⟩, .slice none 0 0, .slice none 0 0, .slice none 0 0]] rfl (by kernel_rfl) (by kernel_rfl) (by kernel_rfl)
      (OpenSpec.preRow_of_cond 8 hx (by kernel_rfl) (fun k hk => by cases hk; kernel_rfl) (by kernel_rfl) (laid_met os))) ?_
  intro W base args ds gs before hval hW _ hcond _ hL _ _
  exact contract H enc W base args ds gs before hval hW hL (hcond _ rfl)
theorem saidUpto : Rows.PobjPrintsUptoSaid :=
  OpenClaim.holds_of_cond 3 Tryd.f3 rfl rfl rfl rfl rfl rfl rfl ⟨rfl, rfl, rfl, rfl, rfl⟩ rfl rfl rfl rfl rfl (by kernel_rfl) Tryd.func3 (by kernel_rfl)
    (of_decide_eq_true (by kernel_rfl)) (by unfold Func.isWrapper; first | (rw [if_pos (by decide +kernel)]; kernel_rfl) | (rw [if_neg (by decide +kernel)]; exact ⟨rfl, rfl⟩))
    (fun os started H enc _ F => by rw [OpenClaim.pre_eq_preRow]; exact liftedUpto os started H enc F)
theorem plain (f : FuncId) (fn : Func) (hf : Tryd.pinned.checked.prog.funcNamed "mezzotint/mezzotintlaw18.PobjPrints" = some f) (hfn : Tryd.pinned.checked.prog.funcs[f]? = some fn) :
    false = Tryd.pinned.checked.prog.looks [] ∧ ∀ (j : Nat) t, fn.params[j]? = some t → Tryd.pinned.checked.prog.wantsStandIn t = false := by
  obtain rfl : f = 3 := Option.some.inj ((show Tryd.prog.funcNamed "mezzotint/mezzotintlaw18.PobjPrints" = some 3 by kernel_rfl).symm.trans hf) |>.symm
  obtain rfl : fn = Tryd.f3 := (Option.some.inj (Tryd.func3.symm.trans hfn)).symm
  refine ⟨by kernel_rfl, fun j t ht => ?_⟩
  rw [Tryd.params3] at ht
  have hm : t ∈ [26] := by have := Array.mem_of_getElem? ht; simpa using this
  simp only [List.mem_cons, List.not_mem_nil, or_false] at hm
  subst hm
  exact (show Tryd.prog.wantsStandIn 26 = false by kernel_rfl)
/-- THE CARD -/
theorem cardUpto : Rows.PobjPrintsUptoCardSaid :=
  Claim7.holds_tied_plain_at .later [] _ _ _ _ saidUpto (fun _ h => by cases h) (by kernel_rfl) (fun _ h => by cases h) pobjPrintsUpto_row_tie rfl ⟨rfl, rfl⟩ (by kernel_rfl) rfl plain (by kernel_rfl)
#print axioms cardUpto

end Go.Proofs.YtaafelkdhahaoaaDoor.pobjPrints
