/- PobjApart: for every two objects whose readings are together of bulk at most 1048576 the law returns true. Its card lists package-level variables of Go's library as their texts lay them. No other condition. -/
import Derived.Test.YtaafelkdhahaoaaDoorPobV3
import Derived.Test.YtaafelkdhahaoaaDoorPobE
import Derived.Test.YtaafelkdhahaoaaDoorPobY
import Derived.Test.YtaafelkdhahaoaaDoorTie
import Derived.Test.YtaafelkdhahaoaaDoorCards
import Derived.Test.YtaafelkdhahaoaaDoorArgs
import Derived.Lib.LaidTab
import Derived.Deep.MidRow
import Derived.OrdersHeld
import Derived.Deep.DeepHandedRow
namespace Go.Proofs.YtaafelkdhahaoaaDoor.pobjApart
open Go.ChangeShapes Go.WideShapes Go.ChangeAt Go.RowKit
open Go.ChangeMaps (open_string shut_string)
open Go.Proofs.YtaafelkdhahaoaaDoor.Pob
set_option linter.unusedVariables false
set_option linter.unusedSimpArgs false

theorem pobjV_agg {H : Type} {enc : TypeId × Value → H} {W : World} {v : Value} {d : DataW H} {p : List MemPlace}
    (h : DataW.Trod enc Tryd.prog W 0 (fun _ => true) true 26 v d p) : ∃ cs, v = .agg cs := by
  obtain ⟨fuel, hf⟩ := h
  obtain ⟨n, hl, -⟩ := trod_field Tryd.underlying26 hf
  rw [ptPO] at hl
  clear hf
  cases v <;> first | exact ⟨_, rfl⟩ | (simp [Value.cells] at hl)

theorem box_rng {w : World} {b : Nat} {l : List Value} (h : BoxAt w b l.toArray) : w.rangeAt b 0 l := fun j v hv => by
  rw [Nat.zero_add]
  exact h.cell j (by simpa using hv)
theorem _root_.Go.Proofs.YtaafelkdhahaoaaDoor.Pob.BytesAt.sl {w : World} {g n cap : Nat} {l : List UInt8} (h : BytesAt w (.slice (some ⟨g, 0, none⟩) n cap) l) : Sl 1 dcells w (some ⟨g, 0, none⟩) n cap l := by
  obtain ⟨g', cap', e, h1, h2, h3, h4⟩ := h.form
  injection e with e1 e2 e3
  injection e1 with e1
  injection e1 with e4
  subst e4 e2 e3
  refine ⟨h1, h2, rfl, fun e => (by cases e), fun _ => ⟨_, 0, rfl, h3, fun i s j u hi hj => ?_⟩⟩
  obtain ⟨hil, ei⟩ := List.getElem?_eq_some_iff.1 hi
  have hj0 : j = 0 := by
    have := (List.getElem?_eq_some_iff.1 hj).1
    simpa [dcells] using this
  subst hj0
  have hu : u = .int .u8 (s.toNat : Int) := by simpa [dcells] using hj.symm
  subst hu
  have := h4 i hil
  rw [show 0 + i * 1 + 0 = i by omega, this, List.getD_eq_getElem?_getD, hi]
  rfl

set_option maxRecDepth 8000 in
set_option maxHeartbeats 4000000 in
theorem walk1 (a b : PO) (w : World) (ha : POk w a) (hb : POk w b) (hla : lightR 41 a = false) : Calls Tryd.prog 4 #[.agg a.cells.toArray, .agg b.cells.toArray] w fun e w' => e = .returned (.bool true) ∧ Up w w' := by
  have HLA0 := Lib.hid (fun (W : World) (hu : Up w W) => light_calls 41 a 40 W rfl (ha.up hu) (by decide))
  rw [hla] at HLA0
  obtain ⟨k, n, t, ka, kl, kc, ks, la, ll, lc, l, da, dl, dc, d⟩ := a
  obtain ⟨k', n', t', ka', kl', kc', ks', la', ll', lc', l', da', dl', dc', d'⟩ := b
  have HLA : Hid (∀ W, Up w W → Calls Tryd.prog 7 #[.agg #[.int .i64 k, .int .i64 n, .string ⟨t.toArray⟩, .slice ka kl kc, .slice la ll lc, .slice da dl dc], .int .i64 40] W fun e w' => e = .returned (.bool false) ∧ Up W w') := HLA0
  show Calls _ _ #[.agg #[.int .i64 k, .int .i64 n, .string ⟨t.toArray⟩, .slice ka kl kc, .slice la ll lc, .slice da dl dc], .agg #[.int .i64 k', .int .i64 n', .string ⟨t'.toArray⟩, .slice ka' kl' kc', .slice la' ll' lc', .slice da' dl' dc']] _ _
  clear HLA0 ha hb hla
  have HA0 := Lib.hid ((BoxAt.new w #[.int .i64 k, .int .i64 n, .string ⟨t.toArray⟩, .slice ka kl kc, .slice la ll lc, .slice da dl dc]).up (Up.alloc (Up.refl _) (.cells #[.int .i64 k', .int .i64 n', .string ⟨t'.toArray⟩, .slice ka' kl' kc', .slice la' ll' lc', .slice da' dl' dc'] 26)))
  have HB0 : Hid (BoxAt ((w.alloc (.cells #[.int .i64 k, .int .i64 n, .string ⟨t.toArray⟩, .slice ka kl kc, .slice la ll lc, .slice da dl dc] 26)).alloc (.cells #[.int .i64 k', .int .i64 n', .string ⟨t'.toArray⟩, .slice ka' kl' kc', .slice la' ll' lc', .slice da' dl' dc'] 26)) (w.heap.size + 1) #[.int .i64 k', .int .i64 n', .string ⟨t'.toArray⟩, .slice ka' kl' kc', .slice la' ll' lc', .slice da' dl' dc']) := Lib.hid (by have h9 := BoxAt.new (w.alloc (.cells #[.int .i64 k, .int .i64 n, .string ⟨t.toArray⟩, .slice ka kl kc, .slice la ll lc, .slice da dl dc] 26)) #[.int .i64 k', .int .i64 n', .string ⟨t'.toArray⟩, .slice ka' kl' kc', .slice la' ll' lc', .slice da' dl' dc']; rwa [show (w.alloc (.cells #[.int .i64 k, .int .i64 n, .string ⟨t.toArray⟩, .slice ka kl kc, .slice la ll lc, .slice da dl dc] 26)).heap.size = w.heap.size + 1 by simp] at h9)
  go_enter Tryd.func4, Tryd.ntmps4
  go_wp2_with (first
    | (go_at_call 6; ((with_reducible refine (answers_calls _).mono ?_); rintro e w1 ⟨rfl, hu1⟩; have HA1 := Lib.hid (BoxAt.up HA0.out hu1); have HB1 := Lib.hid (BoxAt.up HB0.out hu1); have p10 := HA1.out.cell 0 rfl; have q10 := HB1.out.cell 0 rfl; have p11 := HA1.out.cell 1 rfl; have q11 := HB1.out.cell 1 rfl; have p12 := HA1.out.cell 2 rfl; have q12 := HB1.out.cell 2 rfl; have p13 := HA1.out.cell 3 rfl; have q13 := HB1.out.cell 3 rfl; have p14 := HA1.out.cell 4 rfl; have q14 := HB1.out.cell 4 rfl; have p15 := HA1.out.cell 5 rfl; have q15 := HB1.out.cell 5 rfl; have lp1 := HA1.out.lt; have lq1 := HB1.out.lt))
    | (go_at_call 7; ((with_reducible refine Calls.mono (HLA.out _ ?_) ?_); (focus ((repeat' (first | (with_reducible exact Up.refl _) | (with_reducible assumption) | (with_reducible refine Up.alloc ?_ _) | (with_reducible refine Up.drew ?_) | (with_reducible refine Up.drewN ?_ _) | (with_reducible refine Up.setCell ?_ ?_ _) | (with_reducible refine Up.call ?_ (by with_reducible assumption)) | go_size)))); rintro e w2 ⟨rfl, hu2⟩; have HA2 := Lib.hid (BoxAt.up HA1.out hu2); have HB2 := Lib.hid (BoxAt.up HB1.out hu2); have p20 := HA2.out.cell 0 rfl; have q20 := HB2.out.cell 0 rfl; have p21 := HA2.out.cell 1 rfl; have q21 := HB2.out.cell 1 rfl; have p22 := HA2.out.cell 2 rfl; have q22 := HB2.out.cell 2 rfl; have p23 := HA2.out.cell 3 rfl; have q23 := HB2.out.cell 3 rfl; have p24 := HA2.out.cell 4 rfl; have q24 := HB2.out.cell 4 rfl; have p25 := HA2.out.cell 5 rfl; have q25 := HB2.out.cell 5 rfl; have lp2 := HA2.out.lt; have lq2 := HB2.out.lt; clear p10 q10 p11 q11 p12 q12 p13 q13 p14 q14 p15 q15 lp1 lq1))
    | (go_at_call 6; ((with_reducible refine (answers_calls _).mono ?_); rintro e w9 ⟨rfl, hu9⟩)))
  go_ret
  exact ⟨rfl, by (repeat' (first | (with_reducible exact Up.refl _) | (with_reducible assumption) | (with_reducible refine Up.alloc ?_ _) | (with_reducible refine Up.drew ?_) | (with_reducible refine Up.drewN ?_ _) | (with_reducible refine Up.setCell ?_ ?_ _) | (with_reducible refine Up.call ?_ (by with_reducible assumption)) | go_size))⟩

set_option maxRecDepth 8000 in
set_option maxHeartbeats 4000000 in
theorem walk2 (a b : PO) (w : World) (ha : POk w a) (hb : POk w b) (hla : lightR 41 a = true) (hlb : lightR 41 b = false) : Calls Tryd.prog 4 #[.agg a.cells.toArray, .agg b.cells.toArray] w fun e w' => e = .returned (.bool true) ∧ Up w w' := by
  have HLA0 := Lib.hid (fun (W : World) (hu : Up w W) => light_calls 41 a 40 W rfl (ha.up hu) (by decide))
  rw [hla] at HLA0
  have HLB0 := Lib.hid (fun (W : World) (hu : Up w W) => light_calls 41 b 40 W rfl (hb.up hu) (by decide))
  rw [hlb] at HLB0
  obtain ⟨k, n, t, ka, kl, kc, ks, la, ll, lc, l, da, dl, dc, d⟩ := a
  obtain ⟨k', n', t', ka', kl', kc', ks', la', ll', lc', l', da', dl', dc', d'⟩ := b
  have HLA : Hid (∀ W, Up w W → Calls Tryd.prog 7 #[.agg #[.int .i64 k, .int .i64 n, .string ⟨t.toArray⟩, .slice ka kl kc, .slice la ll lc, .slice da dl dc], .int .i64 40] W fun e w' => e = .returned (.bool true) ∧ Up W w') := HLA0
  have HLB : Hid (∀ W, Up w W → Calls Tryd.prog 7 #[.agg #[.int .i64 k', .int .i64 n', .string ⟨t'.toArray⟩, .slice ka' kl' kc', .slice la' ll' lc', .slice da' dl' dc'], .int .i64 40] W fun e w' => e = .returned (.bool false) ∧ Up W w') := HLB0
  show Calls _ _ #[.agg #[.int .i64 k, .int .i64 n, .string ⟨t.toArray⟩, .slice ka kl kc, .slice la ll lc, .slice da dl dc], .agg #[.int .i64 k', .int .i64 n', .string ⟨t'.toArray⟩, .slice ka' kl' kc', .slice la' ll' lc', .slice da' dl' dc']] _ _
  clear HLA0 HLB0 ha hb hla hlb
  have HA0 := Lib.hid ((BoxAt.new w #[.int .i64 k, .int .i64 n, .string ⟨t.toArray⟩, .slice ka kl kc, .slice la ll lc, .slice da dl dc]).up (Up.alloc (Up.refl _) (.cells #[.int .i64 k', .int .i64 n', .string ⟨t'.toArray⟩, .slice ka' kl' kc', .slice la' ll' lc', .slice da' dl' dc'] 26)))
  have HB0 : Hid (BoxAt ((w.alloc (.cells #[.int .i64 k, .int .i64 n, .string ⟨t.toArray⟩, .slice ka kl kc, .slice la ll lc, .slice da dl dc] 26)).alloc (.cells #[.int .i64 k', .int .i64 n', .string ⟨t'.toArray⟩, .slice ka' kl' kc', .slice la' ll' lc', .slice da' dl' dc'] 26)) (w.heap.size + 1) #[.int .i64 k', .int .i64 n', .string ⟨t'.toArray⟩, .slice ka' kl' kc', .slice la' ll' lc', .slice da' dl' dc']) := Lib.hid (by have h9 := BoxAt.new (w.alloc (.cells #[.int .i64 k, .int .i64 n, .string ⟨t.toArray⟩, .slice ka kl kc, .slice la ll lc, .slice da dl dc] 26)) #[.int .i64 k', .int .i64 n', .string ⟨t'.toArray⟩, .slice ka' kl' kc', .slice la' ll' lc', .slice da' dl' dc']; rwa [show (w.alloc (.cells #[.int .i64 k, .int .i64 n, .string ⟨t.toArray⟩, .slice ka kl kc, .slice la ll lc, .slice da dl dc] 26)).heap.size = w.heap.size + 1 by simp] at h9)
  go_enter Tryd.func4, Tryd.ntmps4
  go_wp2_with (first
    | (go_at_call 6; ((with_reducible refine (answers_calls _).mono ?_); rintro e w1 ⟨rfl, hu1⟩; have HA1 := Lib.hid (BoxAt.up HA0.out hu1); have HB1 := Lib.hid (BoxAt.up HB0.out hu1); have p10 := HA1.out.cell 0 rfl; have q10 := HB1.out.cell 0 rfl; have p11 := HA1.out.cell 1 rfl; have q11 := HB1.out.cell 1 rfl; have p12 := HA1.out.cell 2 rfl; have q12 := HB1.out.cell 2 rfl; have p13 := HA1.out.cell 3 rfl; have q13 := HB1.out.cell 3 rfl; have p14 := HA1.out.cell 4 rfl; have q14 := HB1.out.cell 4 rfl; have p15 := HA1.out.cell 5 rfl; have q15 := HB1.out.cell 5 rfl; have lp1 := HA1.out.lt; have lq1 := HB1.out.lt))
    | (go_at_call 7; ((with_reducible refine Calls.mono (HLA.out _ ?_) ?_); (focus ((repeat' (first | (with_reducible exact Up.refl _) | (with_reducible assumption) | (with_reducible refine Up.alloc ?_ _) | (with_reducible refine Up.drew ?_) | (with_reducible refine Up.drewN ?_ _) | (with_reducible refine Up.setCell ?_ ?_ _) | (with_reducible refine Up.call ?_ (by with_reducible assumption)) | go_size)))); rintro e w2 ⟨rfl, hu2⟩; have HA2 := Lib.hid (BoxAt.up HA1.out hu2); have HB2 := Lib.hid (BoxAt.up HB1.out hu2); have p20 := HA2.out.cell 0 rfl; have q20 := HB2.out.cell 0 rfl; have p21 := HA2.out.cell 1 rfl; have q21 := HB2.out.cell 1 rfl; have p22 := HA2.out.cell 2 rfl; have q22 := HB2.out.cell 2 rfl; have p23 := HA2.out.cell 3 rfl; have q23 := HB2.out.cell 3 rfl; have p24 := HA2.out.cell 4 rfl; have q24 := HB2.out.cell 4 rfl; have p25 := HA2.out.cell 5 rfl; have q25 := HB2.out.cell 5 rfl; have lp2 := HA2.out.lt; have lq2 := HB2.out.lt; clear p10 q10 p11 q11 p12 q12 p13 q13 p14 q14 p15 q15 lp1 lq1))
    | (go_at_call 7; ((with_reducible refine Calls.mono (HLB.out _ ?_) ?_); (focus ((repeat' (first | (with_reducible exact Up.refl _) | (with_reducible assumption) | (with_reducible refine Up.alloc ?_ _) | (with_reducible refine Up.drew ?_) | (with_reducible refine Up.drewN ?_ _) | (with_reducible refine Up.setCell ?_ ?_ _) | (with_reducible refine Up.call ?_ (by with_reducible assumption)) | go_size)))); rintro e w3 ⟨rfl, hu3⟩; have HA3 := Lib.hid (BoxAt.up HA2.out hu3); have HB3 := Lib.hid (BoxAt.up HB2.out hu3); have p30 := HA3.out.cell 0 rfl; have q30 := HB3.out.cell 0 rfl; have p31 := HA3.out.cell 1 rfl; have q31 := HB3.out.cell 1 rfl; have p32 := HA3.out.cell 2 rfl; have q32 := HB3.out.cell 2 rfl; have p33 := HA3.out.cell 3 rfl; have q33 := HB3.out.cell 3 rfl; have p34 := HA3.out.cell 4 rfl; have q34 := HB3.out.cell 4 rfl; have p35 := HA3.out.cell 5 rfl; have q35 := HB3.out.cell 5 rfl; have lp3 := HA3.out.lt; have lq3 := HB3.out.lt; clear p20 q20 p21 q21 p22 q22 p23 q23 p24 q24 p25 q25 lp2 lq2))
    | (go_at_call 6; ((with_reducible refine (answers_calls _).mono ?_); rintro e w9 ⟨rfl, hu9⟩)))
  go_ret
  exact ⟨rfl, by (repeat' (first | (with_reducible exact Up.refl _) | (with_reducible assumption) | (with_reducible refine Up.alloc ?_ _) | (with_reducible refine Up.drew ?_) | (with_reducible refine Up.drewN ?_ _) | (with_reducible refine Up.setCell ?_ ?_ _) | (with_reducible refine Up.call ?_ (by with_reducible assumption)) | go_size))⟩

set_option maxRecDepth 8000 in
set_option maxHeartbeats 4000000 in
theorem walk3 (a b : PO) (w : World) (ha : POk w a) (hb : POk w b) (hla : lightR 41 a = true) (hlb : lightR 41 b = true) (hsa : sndR 32 true a = false) : Calls Tryd.prog 4 #[.agg a.cells.toArray, .agg b.cells.toArray] w fun e w' => e = .returned (.bool true) ∧ Up w w' := by
  have HLA0 := Lib.hid (fun (W : World) (hu : Up w W) => light_calls 41 a 40 W rfl (ha.up hu) (by decide))
  rw [hla] at HLA0
  have HLB0 := Lib.hid (fun (W : World) (hu : Up w W) => light_calls 41 b 40 W rfl (hb.up hu) (by decide))
  rw [hlb] at HLB0
  have HSA0 := Lib.hid (fun (W : World) (hu : Up w W) => rSound_calls 41 a W (ha.up hu) hla)
  rw [hsa] at HSA0
  obtain ⟨k, n, t, ka, kl, kc, ks, la, ll, lc, l, da, dl, dc, d⟩ := a
  obtain ⟨k', n', t', ka', kl', kc', ks', la', ll', lc', l', da', dl', dc', d'⟩ := b
  have HLA : Hid (∀ W, Up w W → Calls Tryd.prog 7 #[.agg #[.int .i64 k, .int .i64 n, .string ⟨t.toArray⟩, .slice ka kl kc, .slice la ll lc, .slice da dl dc], .int .i64 40] W fun e w' => e = .returned (.bool true) ∧ Up W w') := HLA0
  have HLB : Hid (∀ W, Up w W → Calls Tryd.prog 7 #[.agg #[.int .i64 k', .int .i64 n', .string ⟨t'.toArray⟩, .slice ka' kl' kc', .slice la' ll' lc', .slice da' dl' dc'], .int .i64 40] W fun e w' => e = .returned (.bool true) ∧ Up W w') := HLB0
  have HSA : Hid (∀ W, Up w W → Calls Tryd.prog 9 #[.agg #[.int .i64 k, .int .i64 n, .string ⟨t.toArray⟩, .slice ka kl kc, .slice la ll lc, .slice da dl dc]] W fun e w' => e = .returned (.bool false) ∧ Up W w') := HSA0
  show Calls _ _ #[.agg #[.int .i64 k, .int .i64 n, .string ⟨t.toArray⟩, .slice ka kl kc, .slice la ll lc, .slice da dl dc], .agg #[.int .i64 k', .int .i64 n', .string ⟨t'.toArray⟩, .slice ka' kl' kc', .slice la' ll' lc', .slice da' dl' dc']] _ _
  clear HLA0 HLB0 HSA0 ha hb hla hlb hsa
  have HA0 := Lib.hid ((BoxAt.new w #[.int .i64 k, .int .i64 n, .string ⟨t.toArray⟩, .slice ka kl kc, .slice la ll lc, .slice da dl dc]).up (Up.alloc (Up.refl _) (.cells #[.int .i64 k', .int .i64 n', .string ⟨t'.toArray⟩, .slice ka' kl' kc', .slice la' ll' lc', .slice da' dl' dc'] 26)))
  have HB0 : Hid (BoxAt ((w.alloc (.cells #[.int .i64 k, .int .i64 n, .string ⟨t.toArray⟩, .slice ka kl kc, .slice la ll lc, .slice da dl dc] 26)).alloc (.cells #[.int .i64 k', .int .i64 n', .string ⟨t'.toArray⟩, .slice ka' kl' kc', .slice la' ll' lc', .slice da' dl' dc'] 26)) (w.heap.size + 1) #[.int .i64 k', .int .i64 n', .string ⟨t'.toArray⟩, .slice ka' kl' kc', .slice la' ll' lc', .slice da' dl' dc']) := Lib.hid (by have h9 := BoxAt.new (w.alloc (.cells #[.int .i64 k, .int .i64 n, .string ⟨t.toArray⟩, .slice ka kl kc, .slice la ll lc, .slice da dl dc] 26)) #[.int .i64 k', .int .i64 n', .string ⟨t'.toArray⟩, .slice ka' kl' kc', .slice la' ll' lc', .slice da' dl' dc']; rwa [show (w.alloc (.cells #[.int .i64 k, .int .i64 n, .string ⟨t.toArray⟩, .slice ka kl kc, .slice la ll lc, .slice da dl dc] 26)).heap.size = w.heap.size + 1 by simp] at h9)
  go_enter Tryd.func4, Tryd.ntmps4
  go_wp2_with (first
    | (go_at_call 6; ((with_reducible refine (answers_calls _).mono ?_); rintro e w1 ⟨rfl, hu1⟩; have HA1 := Lib.hid (BoxAt.up HA0.out hu1); have HB1 := Lib.hid (BoxAt.up HB0.out hu1); have p10 := HA1.out.cell 0 rfl; have q10 := HB1.out.cell 0 rfl; have p11 := HA1.out.cell 1 rfl; have q11 := HB1.out.cell 1 rfl; have p12 := HA1.out.cell 2 rfl; have q12 := HB1.out.cell 2 rfl; have p13 := HA1.out.cell 3 rfl; have q13 := HB1.out.cell 3 rfl; have p14 := HA1.out.cell 4 rfl; have q14 := HB1.out.cell 4 rfl; have p15 := HA1.out.cell 5 rfl; have q15 := HB1.out.cell 5 rfl; have lp1 := HA1.out.lt; have lq1 := HB1.out.lt))
    | (go_at_call 7; ((with_reducible refine Calls.mono (HLA.out _ ?_) ?_); (focus ((repeat' (first | (with_reducible exact Up.refl _) | (with_reducible assumption) | (with_reducible refine Up.alloc ?_ _) | (with_reducible refine Up.drew ?_) | (with_reducible refine Up.drewN ?_ _) | (with_reducible refine Up.setCell ?_ ?_ _) | (with_reducible refine Up.call ?_ (by with_reducible assumption)) | go_size)))); rintro e w2 ⟨rfl, hu2⟩; have HA2 := Lib.hid (BoxAt.up HA1.out hu2); have HB2 := Lib.hid (BoxAt.up HB1.out hu2); have p20 := HA2.out.cell 0 rfl; have q20 := HB2.out.cell 0 rfl; have p21 := HA2.out.cell 1 rfl; have q21 := HB2.out.cell 1 rfl; have p22 := HA2.out.cell 2 rfl; have q22 := HB2.out.cell 2 rfl; have p23 := HA2.out.cell 3 rfl; have q23 := HB2.out.cell 3 rfl; have p24 := HA2.out.cell 4 rfl; have q24 := HB2.out.cell 4 rfl; have p25 := HA2.out.cell 5 rfl; have q25 := HB2.out.cell 5 rfl; have lp2 := HA2.out.lt; have lq2 := HB2.out.lt; clear p10 q10 p11 q11 p12 q12 p13 q13 p14 q14 p15 q15 lp1 lq1))
    | (go_at_call 7; ((with_reducible refine Calls.mono (HLB.out _ ?_) ?_); (focus ((repeat' (first | (with_reducible exact Up.refl _) | (with_reducible assumption) | (with_reducible refine Up.alloc ?_ _) | (with_reducible refine Up.drew ?_) | (with_reducible refine Up.drewN ?_ _) | (with_reducible refine Up.setCell ?_ ?_ _) | (with_reducible refine Up.call ?_ (by with_reducible assumption)) | go_size)))); rintro e w3 ⟨rfl, hu3⟩; have HA3 := Lib.hid (BoxAt.up HA2.out hu3); have HB3 := Lib.hid (BoxAt.up HB2.out hu3); have p30 := HA3.out.cell 0 rfl; have q30 := HB3.out.cell 0 rfl; have p31 := HA3.out.cell 1 rfl; have q31 := HB3.out.cell 1 rfl; have p32 := HA3.out.cell 2 rfl; have q32 := HB3.out.cell 2 rfl; have p33 := HA3.out.cell 3 rfl; have q33 := HB3.out.cell 3 rfl; have p34 := HA3.out.cell 4 rfl; have q34 := HB3.out.cell 4 rfl; have p35 := HA3.out.cell 5 rfl; have q35 := HB3.out.cell 5 rfl; have lp3 := HA3.out.lt; have lq3 := HB3.out.lt; clear p20 q20 p21 q21 p22 q22 p23 q23 p24 q24 p25 q25 lp2 lq2))
    | (go_at_call 9; ((with_reducible refine Calls.mono (HSA.out _ ?_) ?_); (focus ((repeat' (first | (with_reducible exact Up.refl _) | (with_reducible assumption) | (with_reducible refine Up.alloc ?_ _) | (with_reducible refine Up.drew ?_) | (with_reducible refine Up.drewN ?_ _) | (with_reducible refine Up.setCell ?_ ?_ _) | (with_reducible refine Up.call ?_ (by with_reducible assumption)) | go_size)))); rintro e w4 ⟨rfl, hu4⟩; have HA4 := Lib.hid (BoxAt.up HA3.out hu4); have HB4 := Lib.hid (BoxAt.up HB3.out hu4); have p40 := HA4.out.cell 0 rfl; have q40 := HB4.out.cell 0 rfl; have p41 := HA4.out.cell 1 rfl; have q41 := HB4.out.cell 1 rfl; have p42 := HA4.out.cell 2 rfl; have q42 := HB4.out.cell 2 rfl; have p43 := HA4.out.cell 3 rfl; have q43 := HB4.out.cell 3 rfl; have p44 := HA4.out.cell 4 rfl; have q44 := HB4.out.cell 4 rfl; have p45 := HA4.out.cell 5 rfl; have q45 := HB4.out.cell 5 rfl; have lp4 := HA4.out.lt; have lq4 := HB4.out.lt; clear p30 q30 p31 q31 p32 q32 p33 q33 p34 q34 p35 q35 lp3 lq3))
    | (go_at_call 6; ((with_reducible refine (answers_calls _).mono ?_); rintro e w9 ⟨rfl, hu9⟩)))
  go_ret
  exact ⟨rfl, by (repeat' (first | (with_reducible exact Up.refl _) | (with_reducible assumption) | (with_reducible refine Up.alloc ?_ _) | (with_reducible refine Up.drew ?_) | (with_reducible refine Up.drewN ?_ _) | (with_reducible refine Up.setCell ?_ ?_ _) | (with_reducible refine Up.call ?_ (by with_reducible assumption)) | go_size))⟩

set_option maxRecDepth 8000 in
set_option maxHeartbeats 4000000 in
theorem walk4 (a b : PO) (w : World) (ha : POk w a) (hb : POk w b) (hla : lightR 41 a = true) (hlb : lightR 41 b = true) (hsa : sndR 32 true a = true) (hsb : sndR 32 true b = false) : Calls Tryd.prog 4 #[.agg a.cells.toArray, .agg b.cells.toArray] w fun e w' => e = .returned (.bool true) ∧ Up w w' := by
  have HLA0 := Lib.hid (fun (W : World) (hu : Up w W) => light_calls 41 a 40 W rfl (ha.up hu) (by decide))
  rw [hla] at HLA0
  have HLB0 := Lib.hid (fun (W : World) (hu : Up w W) => light_calls 41 b 40 W rfl (hb.up hu) (by decide))
  rw [hlb] at HLB0
  have HSA0 := Lib.hid (fun (W : World) (hu : Up w W) => rSound_calls 41 a W (ha.up hu) hla)
  rw [hsa] at HSA0
  have HSB0 := Lib.hid (fun (W : World) (hu : Up w W) => rSound_calls 41 b W (hb.up hu) hlb)
  rw [hsb] at HSB0
  obtain ⟨k, n, t, ka, kl, kc, ks, la, ll, lc, l, da, dl, dc, d⟩ := a
  obtain ⟨k', n', t', ka', kl', kc', ks', la', ll', lc', l', da', dl', dc', d'⟩ := b
  have HLA : Hid (∀ W, Up w W → Calls Tryd.prog 7 #[.agg #[.int .i64 k, .int .i64 n, .string ⟨t.toArray⟩, .slice ka kl kc, .slice la ll lc, .slice da dl dc], .int .i64 40] W fun e w' => e = .returned (.bool true) ∧ Up W w') := HLA0
  have HLB : Hid (∀ W, Up w W → Calls Tryd.prog 7 #[.agg #[.int .i64 k', .int .i64 n', .string ⟨t'.toArray⟩, .slice ka' kl' kc', .slice la' ll' lc', .slice da' dl' dc'], .int .i64 40] W fun e w' => e = .returned (.bool true) ∧ Up W w') := HLB0
  have HSA : Hid (∀ W, Up w W → Calls Tryd.prog 9 #[.agg #[.int .i64 k, .int .i64 n, .string ⟨t.toArray⟩, .slice ka kl kc, .slice la ll lc, .slice da dl dc]] W fun e w' => e = .returned (.bool true) ∧ Up W w') := HSA0
  have HSB : Hid (∀ W, Up w W → Calls Tryd.prog 9 #[.agg #[.int .i64 k', .int .i64 n', .string ⟨t'.toArray⟩, .slice ka' kl' kc', .slice la' ll' lc', .slice da' dl' dc']] W fun e w' => e = .returned (.bool false) ∧ Up W w') := HSB0
  show Calls _ _ #[.agg #[.int .i64 k, .int .i64 n, .string ⟨t.toArray⟩, .slice ka kl kc, .slice la ll lc, .slice da dl dc], .agg #[.int .i64 k', .int .i64 n', .string ⟨t'.toArray⟩, .slice ka' kl' kc', .slice la' ll' lc', .slice da' dl' dc']] _ _
  clear HLA0 HLB0 HSA0 HSB0 ha hb hla hlb hsa hsb
  have HA0 := Lib.hid ((BoxAt.new w #[.int .i64 k, .int .i64 n, .string ⟨t.toArray⟩, .slice ka kl kc, .slice la ll lc, .slice da dl dc]).up (Up.alloc (Up.refl _) (.cells #[.int .i64 k', .int .i64 n', .string ⟨t'.toArray⟩, .slice ka' kl' kc', .slice la' ll' lc', .slice da' dl' dc'] 26)))
  have HB0 : Hid (BoxAt ((w.alloc (.cells #[.int .i64 k, .int .i64 n, .string ⟨t.toArray⟩, .slice ka kl kc, .slice la ll lc, .slice da dl dc] 26)).alloc (.cells #[.int .i64 k', .int .i64 n', .string ⟨t'.toArray⟩, .slice ka' kl' kc', .slice la' ll' lc', .slice da' dl' dc'] 26)) (w.heap.size + 1) #[.int .i64 k', .int .i64 n', .string ⟨t'.toArray⟩, .slice ka' kl' kc', .slice la' ll' lc', .slice da' dl' dc']) := Lib.hid (by have h9 := BoxAt.new (w.alloc (.cells #[.int .i64 k, .int .i64 n, .string ⟨t.toArray⟩, .slice ka kl kc, .slice la ll lc, .slice da dl dc] 26)) #[.int .i64 k', .int .i64 n', .string ⟨t'.toArray⟩, .slice ka' kl' kc', .slice la' ll' lc', .slice da' dl' dc']; rwa [show (w.alloc (.cells #[.int .i64 k, .int .i64 n, .string ⟨t.toArray⟩, .slice ka kl kc, .slice la ll lc, .slice da dl dc] 26)).heap.size = w.heap.size + 1 by simp] at h9)
  go_enter Tryd.func4, Tryd.ntmps4
  go_wp2_with (first
    | (go_at_call 6; ((with_reducible refine (answers_calls _).mono ?_); rintro e w1 ⟨rfl, hu1⟩; have HA1 := Lib.hid (BoxAt.up HA0.out hu1); have HB1 := Lib.hid (BoxAt.up HB0.out hu1); have p10 := HA1.out.cell 0 rfl; have q10 := HB1.out.cell 0 rfl; have p11 := HA1.out.cell 1 rfl; have q11 := HB1.out.cell 1 rfl; have p12 := HA1.out.cell 2 rfl; have q12 := HB1.out.cell 2 rfl; have p13 := HA1.out.cell 3 rfl; have q13 := HB1.out.cell 3 rfl; have p14 := HA1.out.cell 4 rfl; have q14 := HB1.out.cell 4 rfl; have p15 := HA1.out.cell 5 rfl; have q15 := HB1.out.cell 5 rfl; have lp1 := HA1.out.lt; have lq1 := HB1.out.lt))
    | (go_at_call 7; ((with_reducible refine Calls.mono (HLA.out _ ?_) ?_); (focus ((repeat' (first | (with_reducible exact Up.refl _) | (with_reducible assumption) | (with_reducible refine Up.alloc ?_ _) | (with_reducible refine Up.drew ?_) | (with_reducible refine Up.drewN ?_ _) | (with_reducible refine Up.setCell ?_ ?_ _) | (with_reducible refine Up.call ?_ (by with_reducible assumption)) | go_size)))); rintro e w2 ⟨rfl, hu2⟩; have HA2 := Lib.hid (BoxAt.up HA1.out hu2); have HB2 := Lib.hid (BoxAt.up HB1.out hu2); have p20 := HA2.out.cell 0 rfl; have q20 := HB2.out.cell 0 rfl; have p21 := HA2.out.cell 1 rfl; have q21 := HB2.out.cell 1 rfl; have p22 := HA2.out.cell 2 rfl; have q22 := HB2.out.cell 2 rfl; have p23 := HA2.out.cell 3 rfl; have q23 := HB2.out.cell 3 rfl; have p24 := HA2.out.cell 4 rfl; have q24 := HB2.out.cell 4 rfl; have p25 := HA2.out.cell 5 rfl; have q25 := HB2.out.cell 5 rfl; have lp2 := HA2.out.lt; have lq2 := HB2.out.lt; clear p10 q10 p11 q11 p12 q12 p13 q13 p14 q14 p15 q15 lp1 lq1))
    | (go_at_call 7; ((with_reducible refine Calls.mono (HLB.out _ ?_) ?_); (focus ((repeat' (first | (with_reducible exact Up.refl _) | (with_reducible assumption) | (with_reducible refine Up.alloc ?_ _) | (with_reducible refine Up.drew ?_) | (with_reducible refine Up.drewN ?_ _) | (with_reducible refine Up.setCell ?_ ?_ _) | (with_reducible refine Up.call ?_ (by with_reducible assumption)) | go_size)))); rintro e w3 ⟨rfl, hu3⟩; have HA3 := Lib.hid (BoxAt.up HA2.out hu3); have HB3 := Lib.hid (BoxAt.up HB2.out hu3); have p30 := HA3.out.cell 0 rfl; have q30 := HB3.out.cell 0 rfl; have p31 := HA3.out.cell 1 rfl; have q31 := HB3.out.cell 1 rfl; have p32 := HA3.out.cell 2 rfl; have q32 := HB3.out.cell 2 rfl; have p33 := HA3.out.cell 3 rfl; have q33 := HB3.out.cell 3 rfl; have p34 := HA3.out.cell 4 rfl; have q34 := HB3.out.cell 4 rfl; have p35 := HA3.out.cell 5 rfl; have q35 := HB3.out.cell 5 rfl; have lp3 := HA3.out.lt; have lq3 := HB3.out.lt; clear p20 q20 p21 q21 p22 q22 p23 q23 p24 q24 p25 q25 lp2 lq2))
    | (go_at_call 9; ((with_reducible refine Calls.mono (HSA.out _ ?_) ?_); (focus ((repeat' (first | (with_reducible exact Up.refl _) | (with_reducible assumption) | (with_reducible refine Up.alloc ?_ _) | (with_reducible refine Up.drew ?_) | (with_reducible refine Up.drewN ?_ _) | (with_reducible refine Up.setCell ?_ ?_ _) | (with_reducible refine Up.call ?_ (by with_reducible assumption)) | go_size)))); rintro e w4 ⟨rfl, hu4⟩; have HA4 := Lib.hid (BoxAt.up HA3.out hu4); have HB4 := Lib.hid (BoxAt.up HB3.out hu4); have p40 := HA4.out.cell 0 rfl; have q40 := HB4.out.cell 0 rfl; have p41 := HA4.out.cell 1 rfl; have q41 := HB4.out.cell 1 rfl; have p42 := HA4.out.cell 2 rfl; have q42 := HB4.out.cell 2 rfl; have p43 := HA4.out.cell 3 rfl; have q43 := HB4.out.cell 3 rfl; have p44 := HA4.out.cell 4 rfl; have q44 := HB4.out.cell 4 rfl; have p45 := HA4.out.cell 5 rfl; have q45 := HB4.out.cell 5 rfl; have lp4 := HA4.out.lt; have lq4 := HB4.out.lt; clear p30 q30 p31 q31 p32 q32 p33 q33 p34 q34 p35 q35 lp3 lq3))
    | (go_at_call 9; ((with_reducible refine Calls.mono (HSB.out _ ?_) ?_); (focus ((repeat' (first | (with_reducible exact Up.refl _) | (with_reducible assumption) | (with_reducible refine Up.alloc ?_ _) | (with_reducible refine Up.drew ?_) | (with_reducible refine Up.drewN ?_ _) | (with_reducible refine Up.setCell ?_ ?_ _) | (with_reducible refine Up.call ?_ (by with_reducible assumption)) | go_size)))); rintro e w5 ⟨rfl, hu5⟩; have HA5 := Lib.hid (BoxAt.up HA4.out hu5); have HB5 := Lib.hid (BoxAt.up HB4.out hu5); have p50 := HA5.out.cell 0 rfl; have q50 := HB5.out.cell 0 rfl; have p51 := HA5.out.cell 1 rfl; have q51 := HB5.out.cell 1 rfl; have p52 := HA5.out.cell 2 rfl; have q52 := HB5.out.cell 2 rfl; have p53 := HA5.out.cell 3 rfl; have q53 := HB5.out.cell 3 rfl; have p54 := HA5.out.cell 4 rfl; have q54 := HB5.out.cell 4 rfl; have p55 := HA5.out.cell 5 rfl; have q55 := HB5.out.cell 5 rfl; have lp5 := HA5.out.lt; have lq5 := HB5.out.lt; clear p40 q40 p41 q41 p42 q42 p43 q43 p44 q44 p45 q45 lp4 lq4))
    | (go_at_call 6; ((with_reducible refine (answers_calls _).mono ?_); rintro e w9 ⟨rfl, hu9⟩)))
  go_ret
  exact ⟨rfl, by (repeat' (first | (with_reducible exact Up.refl _) | (with_reducible assumption) | (with_reducible refine Up.alloc ?_ _) | (with_reducible refine Up.drew ?_) | (with_reducible refine Up.drewN ?_ _) | (with_reducible refine Up.setCell ?_ ?_ _) | (with_reducible refine Up.call ?_ (by with_reducible assumption)) | go_size))⟩

set_option maxRecDepth 8000 in
set_option maxHeartbeats 4000000 in
theorem walk5 (a b : PO) (w : World) (ha : POk w a) (hb : POk w b) (hla : lightR 41 a = true) (hlb : lightR 41 b = true) (hsa : sndR 32 true a = true) (hsb : sndR 32 true b = true) (ht : PTab w) (hba : bulk 33 a ≤ 1048576) (hbb : bulk 33 b ≤ 1048576) : Calls Tryd.prog 4 #[.agg a.cells.toArray, .agg b.cells.toArray] w fun e w' => e = .returned (.bool true) ∧ Up w w' := by
  have HLA0 := Lib.hid (fun (W : World) (hu : Up w W) => light_calls 41 a 40 W rfl (ha.up hu) (by decide))
  rw [hla] at HLA0
  have HLB0 := Lib.hid (fun (W : World) (hu : Up w W) => light_calls 41 b 40 W rfl (hb.up hu) (by decide))
  rw [hlb] at HLB0
  have HSA0 := Lib.hid (fun (W : World) (hu : Up w W) => rSound_calls 41 a W (ha.up hu) hla)
  rw [hsa] at HSA0
  have HSB0 := Lib.hid (fun (W : World) (hu : Up w W) => rSound_calls 41 b W (hb.up hu) hlb)
  rw [hsb] at HSB0
  have lena : (prn 32 a).length ≤ 140737480000000 := by
    have : (prn 32 a).length + 1 ≤ 100010 * bulk 33 a := prn_bulk 32 true 41 a w ha hla hsa
    omega
  have lenb : (prn 32 b).length ≤ 140737480000000 := by
    have : (prn 32 b).length + 1 ≤ 100010 * bulk 33 b := prn_bulk 32 true 41 b w hb hlb hsb
    omega
  have HPA0 := Lib.hid (fun (W : World) (hu : Up w W) => pprint_ok 41 a W (ha.up hu) hla hsa (ht.up hu) lena)
  have HPB0 := Lib.hid (fun (W : World) (hu : Up w W) => pprint_ok 41 b W (hb.up hu) hlb hsb (ht.up hu) lenb)
  have HEQ0 := Lib.hid (fun (W : World) (hu : Up w W) => equal_calls w 41 a b W ha hb hla hu)
  have hlaw := prn_law ha hb hla hsa hsb
  obtain ⟨ev, hev⟩ : ∃ ev, eqR 41 a b = ev := ⟨_, rfl⟩
  rw [hev] at HEQ0 hlaw
  obtain ⟨X, hX⟩ : ∃ X, prn 32 a = X := ⟨_, rfl⟩
  obtain ⟨Y, hY⟩ : ∃ Y, prn 32 b = Y := ⟨_, rfl⟩
  rw [hX] at HPA0 hlaw
  rw [hY] at HPB0 hlaw
  have HLAW := Lib.hid hlaw
  obtain ⟨k, n, t, ka, kl, kc, ks, la, ll, lc, l, da, dl, dc, d⟩ := a
  obtain ⟨k', n', t', ka', kl', kc', ks', la', ll', lc', l', da', dl', dc', d'⟩ := b
  have HLA : Hid (∀ W, Up w W → Calls Tryd.prog 7 #[.agg #[.int .i64 k, .int .i64 n, .string ⟨t.toArray⟩, .slice ka kl kc, .slice la ll lc, .slice da dl dc], .int .i64 40] W fun e w' => e = .returned (.bool true) ∧ Up W w') := HLA0
  have HLB : Hid (∀ W, Up w W → Calls Tryd.prog 7 #[.agg #[.int .i64 k', .int .i64 n', .string ⟨t'.toArray⟩, .slice ka' kl' kc', .slice la' ll' lc', .slice da' dl' dc'], .int .i64 40] W fun e w' => e = .returned (.bool true) ∧ Up W w') := HLB0
  have HSA : Hid (∀ W, Up w W → Calls Tryd.prog 9 #[.agg #[.int .i64 k, .int .i64 n, .string ⟨t.toArray⟩, .slice ka kl kc, .slice la ll lc, .slice da dl dc]] W fun e w' => e = .returned (.bool true) ∧ Up W w') := HSA0
  have HSB : Hid (∀ W, Up w W → Calls Tryd.prog 9 #[.agg #[.int .i64 k', .int .i64 n', .string ⟨t'.toArray⟩, .slice ka' kl' kc', .slice la' ll' lc', .slice da' dl' dc']] W fun e w' => e = .returned (.bool true) ∧ Up W w') := HSB0
  have HPA : Hid (∀ W, Up w W → Calls Tryd.prog 8 #[.agg #[.int .i64 k, .int .i64 n, .string ⟨t.toArray⟩, .slice ka kl kc, .slice la ll lc, .slice da dl dc]] W fun e w' => ∃ v, e = .returned (.tuple #[v, .int .i64 0]) ∧ BytesAt w' v X ∧ Up W w') := HPA0
  have HPB : Hid (∀ W, Up w W → Calls Tryd.prog 8 #[.agg #[.int .i64 k', .int .i64 n', .string ⟨t'.toArray⟩, .slice ka' kl' kc', .slice la' ll' lc', .slice da' dl' dc']] W fun e w' => ∃ v, e = .returned (.tuple #[v, .int .i64 0]) ∧ BytesAt w' v Y ∧ Up W w') := HPB0
  have HEQ : Hid (∀ W, Up w W → Calls Tryd.prog 13 #[.agg #[.int .i64 k, .int .i64 n, .string ⟨t.toArray⟩, .slice ka kl kc, .slice la ll lc, .slice da dl dc], .agg #[.int .i64 k', .int .i64 n', .string ⟨t'.toArray⟩, .slice ka' kl' kc', .slice la' ll' lc', .slice da' dl' dc']] W fun e w' => e = .returned (.bool ev) ∧ Up W w') := HEQ0
  show Calls _ _ #[.agg #[.int .i64 k, .int .i64 n, .string ⟨t.toArray⟩, .slice ka kl kc, .slice la ll lc, .slice da dl dc], .agg #[.int .i64 k', .int .i64 n', .string ⟨t'.toArray⟩, .slice ka' kl' kc', .slice la' ll' lc', .slice da' dl' dc']] _ _
  clear HLA0 HLB0 HSA0 HSB0 HPA0 HPB0 HEQ0 hlaw hev hX hY ht hba hbb lena lenb ha hb hla hlb hsa hsb
  have HA0 := Lib.hid ((BoxAt.new w #[.int .i64 k, .int .i64 n, .string ⟨t.toArray⟩, .slice ka kl kc, .slice la ll lc, .slice da dl dc]).up (Up.alloc (Up.refl _) (.cells #[.int .i64 k', .int .i64 n', .string ⟨t'.toArray⟩, .slice ka' kl' kc', .slice la' ll' lc', .slice da' dl' dc'] 26)))
  have HB0 : Hid (BoxAt ((w.alloc (.cells #[.int .i64 k, .int .i64 n, .string ⟨t.toArray⟩, .slice ka kl kc, .slice la ll lc, .slice da dl dc] 26)).alloc (.cells #[.int .i64 k', .int .i64 n', .string ⟨t'.toArray⟩, .slice ka' kl' kc', .slice la' ll' lc', .slice da' dl' dc'] 26)) (w.heap.size + 1) #[.int .i64 k', .int .i64 n', .string ⟨t'.toArray⟩, .slice ka' kl' kc', .slice la' ll' lc', .slice da' dl' dc']) := Lib.hid (by have h9 := BoxAt.new (w.alloc (.cells #[.int .i64 k, .int .i64 n, .string ⟨t.toArray⟩, .slice ka kl kc, .slice la ll lc, .slice da dl dc] 26)) #[.int .i64 k', .int .i64 n', .string ⟨t'.toArray⟩, .slice ka' kl' kc', .slice la' ll' lc', .slice da' dl' dc']; rwa [show (w.alloc (.cells #[.int .i64 k, .int .i64 n, .string ⟨t.toArray⟩, .slice ka kl kc, .slice la ll lc, .slice da dl dc] 26)).heap.size = w.heap.size + 1 by simp] at h9)
  go_enter Tryd.func4, Tryd.ntmps4
  go_wp2_with (first
    | (go_at_call 6; ((with_reducible refine (answers_calls _).mono ?_); rintro e w1 ⟨rfl, hu1⟩; have HA1 := Lib.hid (BoxAt.up HA0.out hu1); have HB1 := Lib.hid (BoxAt.up HB0.out hu1); have p10 := HA1.out.cell 0 rfl; have q10 := HB1.out.cell 0 rfl; have p11 := HA1.out.cell 1 rfl; have q11 := HB1.out.cell 1 rfl; have p12 := HA1.out.cell 2 rfl; have q12 := HB1.out.cell 2 rfl; have p13 := HA1.out.cell 3 rfl; have q13 := HB1.out.cell 3 rfl; have p14 := HA1.out.cell 4 rfl; have q14 := HB1.out.cell 4 rfl; have p15 := HA1.out.cell 5 rfl; have q15 := HB1.out.cell 5 rfl; have lp1 := HA1.out.lt; have lq1 := HB1.out.lt))
    | (go_at_call 7; ((with_reducible refine Calls.mono (HLA.out _ ?_) ?_); (focus ((repeat' (first | (with_reducible exact Up.refl _) | (with_reducible assumption) | (with_reducible refine Up.alloc ?_ _) | (with_reducible refine Up.drew ?_) | (with_reducible refine Up.drewN ?_ _) | (with_reducible refine Up.setCell ?_ ?_ _) | (with_reducible refine Up.call ?_ (by with_reducible assumption)) | go_size)))); rintro e w2 ⟨rfl, hu2⟩; have HA2 := Lib.hid (BoxAt.up HA1.out hu2); have HB2 := Lib.hid (BoxAt.up HB1.out hu2); have p20 := HA2.out.cell 0 rfl; have q20 := HB2.out.cell 0 rfl; have p21 := HA2.out.cell 1 rfl; have q21 := HB2.out.cell 1 rfl; have p22 := HA2.out.cell 2 rfl; have q22 := HB2.out.cell 2 rfl; have p23 := HA2.out.cell 3 rfl; have q23 := HB2.out.cell 3 rfl; have p24 := HA2.out.cell 4 rfl; have q24 := HB2.out.cell 4 rfl; have p25 := HA2.out.cell 5 rfl; have q25 := HB2.out.cell 5 rfl; have lp2 := HA2.out.lt; have lq2 := HB2.out.lt; clear p10 q10 p11 q11 p12 q12 p13 q13 p14 q14 p15 q15 lp1 lq1))
    | (go_at_call 7; ((with_reducible refine Calls.mono (HLB.out _ ?_) ?_); (focus ((repeat' (first | (with_reducible exact Up.refl _) | (with_reducible assumption) | (with_reducible refine Up.alloc ?_ _) | (with_reducible refine Up.drew ?_) | (with_reducible refine Up.drewN ?_ _) | (with_reducible refine Up.setCell ?_ ?_ _) | (with_reducible refine Up.call ?_ (by with_reducible assumption)) | go_size)))); rintro e w3 ⟨rfl, hu3⟩; have HA3 := Lib.hid (BoxAt.up HA2.out hu3); have HB3 := Lib.hid (BoxAt.up HB2.out hu3); have p30 := HA3.out.cell 0 rfl; have q30 := HB3.out.cell 0 rfl; have p31 := HA3.out.cell 1 rfl; have q31 := HB3.out.cell 1 rfl; have p32 := HA3.out.cell 2 rfl; have q32 := HB3.out.cell 2 rfl; have p33 := HA3.out.cell 3 rfl; have q33 := HB3.out.cell 3 rfl; have p34 := HA3.out.cell 4 rfl; have q34 := HB3.out.cell 4 rfl; have p35 := HA3.out.cell 5 rfl; have q35 := HB3.out.cell 5 rfl; have lp3 := HA3.out.lt; have lq3 := HB3.out.lt; clear p20 q20 p21 q21 p22 q22 p23 q23 p24 q24 p25 q25 lp2 lq2))
    | (go_at_call 9; ((with_reducible refine Calls.mono (HSA.out _ ?_) ?_); (focus ((repeat' (first | (with_reducible exact Up.refl _) | (with_reducible assumption) | (with_reducible refine Up.alloc ?_ _) | (with_reducible refine Up.drew ?_) | (with_reducible refine Up.drewN ?_ _) | (with_reducible refine Up.setCell ?_ ?_ _) | (with_reducible refine Up.call ?_ (by with_reducible assumption)) | go_size)))); rintro e w4 ⟨rfl, hu4⟩; have HA4 := Lib.hid (BoxAt.up HA3.out hu4); have HB4 := Lib.hid (BoxAt.up HB3.out hu4); have p40 := HA4.out.cell 0 rfl; have q40 := HB4.out.cell 0 rfl; have p41 := HA4.out.cell 1 rfl; have q41 := HB4.out.cell 1 rfl; have p42 := HA4.out.cell 2 rfl; have q42 := HB4.out.cell 2 rfl; have p43 := HA4.out.cell 3 rfl; have q43 := HB4.out.cell 3 rfl; have p44 := HA4.out.cell 4 rfl; have q44 := HB4.out.cell 4 rfl; have p45 := HA4.out.cell 5 rfl; have q45 := HB4.out.cell 5 rfl; have lp4 := HA4.out.lt; have lq4 := HB4.out.lt; clear p30 q30 p31 q31 p32 q32 p33 q33 p34 q34 p35 q35 lp3 lq3))
    | (go_at_call 9; ((with_reducible refine Calls.mono (HSB.out _ ?_) ?_); (focus ((repeat' (first | (with_reducible exact Up.refl _) | (with_reducible assumption) | (with_reducible refine Up.alloc ?_ _) | (with_reducible refine Up.drew ?_) | (with_reducible refine Up.drewN ?_ _) | (with_reducible refine Up.setCell ?_ ?_ _) | (with_reducible refine Up.call ?_ (by with_reducible assumption)) | go_size)))); rintro e w5 ⟨rfl, hu5⟩; have HA5 := Lib.hid (BoxAt.up HA4.out hu5); have HB5 := Lib.hid (BoxAt.up HB4.out hu5); have p50 := HA5.out.cell 0 rfl; have q50 := HB5.out.cell 0 rfl; have p51 := HA5.out.cell 1 rfl; have q51 := HB5.out.cell 1 rfl; have p52 := HA5.out.cell 2 rfl; have q52 := HB5.out.cell 2 rfl; have p53 := HA5.out.cell 3 rfl; have q53 := HB5.out.cell 3 rfl; have p54 := HA5.out.cell 4 rfl; have q54 := HB5.out.cell 4 rfl; have p55 := HA5.out.cell 5 rfl; have q55 := HB5.out.cell 5 rfl; have lp5 := HA5.out.lt; have lq5 := HB5.out.lt; clear p40 q40 p41 q41 p42 q42 p43 q43 p44 q44 p45 q45 lp4 lq4))
    | (go_at_call 8; ((with_reducible refine Calls.mono (HPA.out _ ?_) ?_); (focus ((repeat' (first | (with_reducible exact Up.refl _) | (with_reducible assumption) | (with_reducible refine Up.alloc ?_ _) | (with_reducible refine Up.drew ?_) | (with_reducible refine Up.drewN ?_ _) | (with_reducible refine Up.setCell ?_ ?_ _) | (with_reducible refine Up.call ?_ (by with_reducible assumption)) | go_size)))); rintro e w6 ⟨v6, rfl, hb6, hu6⟩; have HBV6 := Lib.hid hb6; obtain ⟨g6, c6, rfl, -⟩ := id hb6.form; clear hb6; have HA6 := Lib.hid (BoxAt.up HA5.out hu6); have HB6 := Lib.hid (BoxAt.up HB5.out hu6); have p60 := HA6.out.cell 0 rfl; have q60 := HB6.out.cell 0 rfl; have p61 := HA6.out.cell 1 rfl; have q61 := HB6.out.cell 1 rfl; have p62 := HA6.out.cell 2 rfl; have q62 := HB6.out.cell 2 rfl; have p63 := HA6.out.cell 3 rfl; have q63 := HB6.out.cell 3 rfl; have p64 := HA6.out.cell 4 rfl; have q64 := HB6.out.cell 4 rfl; have p65 := HA6.out.cell 5 rfl; have q65 := HB6.out.cell 5 rfl; have lp6 := HA6.out.lt; have lq6 := HB6.out.lt; clear p50 q50 p51 q51 p52 q52 p53 q53 p54 q54 p55 q55 lp5 lq5))
    | (go_at_call 8; ((with_reducible refine Calls.mono (HPB.out _ ?_) ?_); (focus ((repeat' (first | (with_reducible exact Up.refl _) | (with_reducible assumption) | (with_reducible refine Up.alloc ?_ _) | (with_reducible refine Up.drew ?_) | (with_reducible refine Up.drewN ?_ _) | (with_reducible refine Up.setCell ?_ ?_ _) | (with_reducible refine Up.call ?_ (by with_reducible assumption)) | go_size)))); rintro e w7 ⟨v7, rfl, hb7, hu7⟩; have HBV7 := Lib.hid hb7; obtain ⟨g7, c7, rfl, -⟩ := id hb7.form; clear hb7; have HA7 := Lib.hid (BoxAt.up HA6.out hu7); have HB7 := Lib.hid (BoxAt.up HB6.out hu7); have p70 := HA7.out.cell 0 rfl; have q70 := HB7.out.cell 0 rfl; have p71 := HA7.out.cell 1 rfl; have q71 := HB7.out.cell 1 rfl; have p72 := HA7.out.cell 2 rfl; have q72 := HB7.out.cell 2 rfl; have p73 := HA7.out.cell 3 rfl; have q73 := HB7.out.cell 3 rfl; have p74 := HA7.out.cell 4 rfl; have q74 := HB7.out.cell 4 rfl; have p75 := HA7.out.cell 5 rfl; have q75 := HB7.out.cell 5 rfl; have lp7 := HA7.out.lt; have lq7 := HB7.out.lt; clear p60 q60 p61 q61 p62 q62 p63 q63 p64 q64 p65 q65 lp6 lq6)))
  have HSX : Hid (∀ W, Up w7 W → Calls Tryd.prog 12 #[.slice (some ⟨g6, 0, none⟩) X.length c6, .slice (some ⟨g7, 0, none⟩) Y.length c7] W fun e w' => e = .returned (.bool ev) ∧ Up W w') := Lib.hid (fun W hW => same_calls w7 (some ⟨g6, 0, none⟩) X.length c6 X (some ⟨g7, 0, none⟩) Y.length c7 Y (HBV6.out.up hu7).sl HBV7.out.sl ev HLAW.out W hW)
  clear p70 q70 p71 q71 p72 q72 p73 q73 p74 q74 p75 q75 lp7 lq7
  refine wp_region_held_drew (S := fun w' => BoxAt w' w.heap.size #[.int .i64 k, .int .i64 n, .string ⟨t.toArray⟩, .slice ka kl kc, .slice la ll lc, .slice da dl dc] ∧ BoxAt w' (w.heap.size + 1) #[.int .i64 k', .int .i64 n', .string ⟨t'.toArray⟩, .slice ka' kl' kc', .slice la' ll' lc', .slice da' dl' dc']) (by kernel_rfl) ?_ (fun hHeld => ?_)
  · exact ⟨HA7.out.up (Up.drew (Up.refl _)), HB7.out.up (Up.drew (Up.refl _))⟩
  refine wpAnyH_take (i := 0) (v := ?_) rfl (by decide +kernel) (by decide +kernel) (by decide +kernel) (fun _ _ _ h => h) (Or.inl ⟨by rfl, ?_⟩) (by assumption) ?_
  rotate_left
  · intro w2 hSw
    (try dsimp only at hSw)
    (try (obtain ⟨hs1, hs2⟩ := hSw))
    go_simp
    (try (with_reducible rfl))
  (try simp only [Act.put, List.getElem_toArray, List.getElem_cons_zero, List.getElem_cons_succ, List.setIfInBounds_toArray, List.set_cons_zero, List.set_cons_succ])
  refine wpAnyH_take (i := 1) (v := ?_) rfl (by decide +kernel) (by decide +kernel) (by decide +kernel) (fun _ _ _ h => h) (Or.inl ⟨by rfl, ?_⟩) (by assumption) ?_
  rotate_left
  · intro w2 hSw
    (try dsimp only at hSw)
    (try (obtain ⟨hs1, hs2⟩ := hSw))
    go_simp
    (try (with_reducible rfl))
  (try simp only [Act.put, List.getElem_toArray, List.getElem_cons_zero, List.getElem_cons_succ, List.setIfInBounds_toArray, List.set_cons_zero, List.set_cons_succ])
  refine wpAnyH_take (i := 2) (v := ?_) rfl (by decide +kernel) (by decide +kernel) (by decide +kernel) (fun _ _ _ h => h) (Or.inl ⟨by rfl, ?_⟩) (by assumption) ?_
  rotate_left
  · intro w2 hSw
    (try dsimp only at hSw)
    (try (obtain ⟨hs1, hs2⟩ := hSw))
    go_simp
    (try (with_reducible rfl))
  (try simp only [Act.put, List.getElem_toArray, List.getElem_cons_zero, List.getElem_cons_succ, List.setIfInBounds_toArray, List.set_cons_zero, List.set_cons_succ])
  refine wpAnyH_take (i := 3) (v := ?_) rfl (by decide +kernel) (by decide +kernel) (by decide +kernel) (fun _ _ _ h => h) (Or.inl ⟨by rfl, ?_⟩) (by assumption) ?_
  rotate_left
  · intro w2 hSw
    (try dsimp only at hSw)
    (try (obtain ⟨hs1, hs2⟩ := hSw))
    go_simp
    (try (with_reducible rfl))
  (try simp only [Act.put, List.getElem_toArray, List.getElem_cons_zero, List.getElem_cons_succ, List.setIfInBounds_toArray, List.set_cons_zero, List.set_cons_succ])
  refine wpAnyH_take (i := 4) (v := ?_) rfl (by decide +kernel) (by decide +kernel) (by decide +kernel) (fun _ _ _ h => h) (Or.inl ⟨by rfl, ?_⟩) (by assumption) ?_
  rotate_left
  · intro w2 hSw
    (try dsimp only at hSw)
    (try (obtain ⟨hs1, hs2⟩ := hSw))
    go_simp
    (try (with_reducible rfl))
  (try simp only [Act.put, List.getElem_toArray, List.getElem_cons_zero, List.getElem_cons_succ, List.setIfInBounds_toArray, List.set_cons_zero, List.set_cons_succ])
  refine wpAnyH_take (i := 5) (v := ?_) rfl (by decide +kernel) (by decide +kernel) (by decide +kernel) (fun _ _ _ h => h) (Or.inl ⟨by rfl, ?_⟩) (by assumption) ?_
  rotate_left
  · intro w2 hSw
    (try dsimp only at hSw)
    (try (obtain ⟨hs1, hs2⟩ := hSw))
    go_simp
    (try (with_reducible rfl))
  (try simp only [Act.put, List.getElem_toArray, List.getElem_cons_zero, List.getElem_cons_succ, List.setIfInBounds_toArray, List.set_cons_zero, List.set_cons_succ])
  refine wpAnyH_take (i := 6) (v := ?_) rfl (by decide +kernel) (by decide +kernel) (by decide +kernel) (fun _ _ _ h => h) (Or.inl ⟨by rfl, ?_⟩) (by assumption) ?_
  rotate_left
  · intro w2 hSw
    (try dsimp only at hSw)
    (try (obtain ⟨hs1, hs2⟩ := hSw))
    go_simp
    (try (with_reducible rfl))
  (try simp only [Act.put, List.getElem_toArray, List.getElem_cons_zero, List.getElem_cons_succ, List.setIfInBounds_toArray, List.set_cons_zero, List.set_cons_succ])
  refine wpAnyH_take (i := 7) (v := ?_) rfl (by decide +kernel) (by decide +kernel) (by decide +kernel) (fun _ _ _ h => h) (Or.inl ⟨by rfl, ?_⟩) (by assumption) ?_
  rotate_left
  · intro w2 hSw
    (try dsimp only at hSw)
    (try (obtain ⟨hs1, hs2⟩ := hSw))
    go_simp
    (try (with_reducible rfl))
  (try simp only [Act.put, List.getElem_toArray, List.getElem_cons_zero, List.getElem_cons_succ, List.setIfInBounds_toArray, List.set_cons_zero, List.set_cons_succ])
  refine wpAnyH_take (i := 8) (v := ?_) rfl (by decide +kernel) (by decide +kernel) (by decide +kernel) (fun _ _ _ h => h) (Or.inl ⟨by rfl, ?_⟩) (by assumption) ?_
  rotate_left
  · intro w2 hSw
    (try dsimp only at hSw)
    (try (obtain ⟨hs1, hs2⟩ := hSw))
    go_simp
    (try (with_reducible rfl))
  (try simp only [Act.put, List.getElem_toArray, List.getElem_cons_zero, List.getElem_cons_succ, List.setIfInBounds_toArray, List.set_cons_zero, List.set_cons_succ])
  refine wpAnyH_take (i := 10) rfl (by decide +kernel) (by decide +kernel) (by decide +kernel) (fun _ _ _ h => h) (yieldsIf_load_mid (by rfl) 26 (.tmp 2) rfl w.heap.size 0 rfl [.int .i64 k, .int .i64 n, .string ⟨t.toArray⟩, .slice ka kl kc, .slice la ll lc, .slice da dl dc] _ (fun _ h => box_rng h.1) Tryd.underlying26 rfl (by kernel_rfl)) (by assumption) ?_
  (try simp only [Act.put, List.getElem_toArray, List.getElem_cons_zero, List.getElem_cons_succ, List.setIfInBounds_toArray, List.set_cons_zero, List.set_cons_succ])
  refine wpAnyH_take (i := 11) rfl (by decide +kernel) (by decide +kernel) (by decide +kernel) (fun _ _ _ h => h) (yieldsIf_load_mid (by rfl) 26 (.tmp 3) rfl (w.heap.size + 1) 0 rfl [.int .i64 k', .int .i64 n', .string ⟨t'.toArray⟩, .slice ka' kl' kc', .slice la' ll' lc', .slice da' dl' dc'] _ (fun _ h => box_rng h.2) Tryd.underlying26 rfl (by kernel_rfl)) (by assumption) ?_
  (try simp only [Act.put, List.getElem_toArray, List.getElem_cons_zero, List.getElem_cons_succ, List.setIfInBounds_toArray, List.set_cons_zero, List.set_cons_succ])
  refine wpAnyH_ready (rs := [9]) (by decide +kernel) (by simp) ?_
  refine AllReadyH.cons rfl (fun K hK => ?_) (AllReadyH.nil)
  (try simp only [List.getElem_toArray, List.getElem_cons_zero, List.getElem_cons_succ])
  (go_simp; go_at_call 12; ((with_reducible refine Calls.mono (HSX.out _ ?_) ?_); (focus ((repeat' (first | (with_reducible exact Up.refl _) | (with_reducible assumption) | (with_reducible refine Up.alloc ?_ _) | (with_reducible refine Up.drew ?_) | (with_reducible refine Up.drewN ?_ _) | (with_reducible refine Up.setCell ?_ ?_ _) | (with_reducible refine Up.call ?_ (by with_reducible assumption)) | go_size)))); rintro e w8 ⟨rfl, hu8⟩); (try dsimp only))
  refine hK.out _ _ ?_ (fun hHeld => ?_)
  · exact ⟨hHeld.1.up hu8, hHeld.2.up hu8⟩
  clear hK K
  (try simp only [Act.put, List.getElem_toArray, List.getElem_cons_zero, List.getElem_cons_succ, List.setIfInBounds_toArray, List.set_cons_zero, List.set_cons_succ])
  refine wpAnyH_ready (rs := [12]) (by decide +kernel) (by simp) ?_
  refine AllReadyH.cons rfl (fun K hK => ?_) (AllReadyH.nil)
  (try simp only [List.getElem_toArray, List.getElem_cons_zero, List.getElem_cons_succ])
  (go_simp; go_at_call 13; ((with_reducible refine Calls.mono (HEQ.out _ ?_) ?_); (focus ((repeat' (first | (with_reducible exact Up.refl _) | (with_reducible assumption) | (with_reducible refine Up.alloc ?_ _) | (with_reducible refine Up.drew ?_) | (with_reducible refine Up.drewN ?_ _) | (with_reducible refine Up.setCell ?_ ?_ _) | (with_reducible refine Up.call ?_ (by with_reducible assumption)) | go_size)))); rintro e w10 ⟨rfl, hu10⟩); (try dsimp only))
  refine hK.out _ _ ?_ (fun hHeld => ?_)
  · exact ⟨hHeld.1.up hu10, hHeld.2.up hu10⟩
  clear hK K
  (try simp only [Act.put, List.getElem_toArray, List.getElem_cons_zero, List.getElem_cons_succ, List.setIfInBounds_toArray, List.set_cons_zero, List.set_cons_succ])
  refine wpAnyH_take (i := 13) (v := ?_) rfl (by decide +kernel) (by decide +kernel) (by decide +kernel) (fun _ _ _ h => h) (Or.inl ⟨by rfl, ?_⟩) (by assumption) ?_
  rotate_left
  · intro w2 hSw
    (try dsimp only at hSw)
    (try (obtain ⟨hs1, hs2⟩ := hSw))
    go_simp
    (try (with_reducible rfl))
  (try simp only [Act.put, List.getElem_toArray, List.getElem_cons_zero, List.getElem_cons_succ, List.setIfInBounds_toArray, List.set_cons_zero, List.set_cons_succ])
  refine wpAnyH_take (i := 14) (v := ?_) rfl (by decide +kernel) (by decide +kernel) (by decide +kernel) (fun _ _ _ h => h) (Or.inl ⟨by rfl, ?_⟩) (by assumption) ?_
  rotate_left
  · intro w2 hSw
    (try dsimp only at hSw)
    (try (obtain ⟨hs1, hs2⟩ := hSw))
    go_simp
    (try (with_reducible rfl))
  (try simp only [Act.put, List.getElem_toArray, List.getElem_cons_zero, List.getElem_cons_succ, List.setIfInBounds_toArray, List.set_cons_zero, List.set_cons_succ])
  refine wpAnyH_take (i := 15) (v := ?_) rfl (by decide +kernel) (by decide +kernel) (by decide +kernel) (fun _ _ _ h => h) (Or.inl ⟨by rfl, ?_⟩) (by assumption) ?_
  rotate_left
  · intro w2 hSw
    (try dsimp only at hSw)
    (try (obtain ⟨hs1, hs2⟩ := hSw))
    go_simp
    (try (with_reducible rfl))
  (try simp only [Act.put, List.getElem_toArray, List.getElem_cons_zero, List.getElem_cons_succ, List.setIfInBounds_toArray, List.set_cons_zero, List.set_cons_succ])
  refine wpAnyH_done (by decide +kernel) ?_ _
  clear hHeld
  go_wp2
  go_ret
  exact ⟨rfl, by (repeat' (first | (with_reducible exact Up.refl _) | (with_reducible assumption) | (with_reducible refine Up.alloc ?_ _) | (with_reducible refine Up.drew ?_) | (with_reducible refine Up.drewN ?_ _) | (with_reducible refine Up.setCell ?_ ?_ _) | (with_reducible refine Up.call ?_ (by with_reducible assumption)) | go_size))⟩

theorem tab_third {P : Program} {W : World} {name : String} {k : IntKind} {zs : List Int} {a b : String × DataW Unit} {rest : List (String × DataW Unit)} {g : Nat} {t e : TypeId} {n : Nat}
    (hg : P.globalNamed name = some g) (hty : (P.globals[g]?).map (·.type) = some t) (ht : P.underlying t = some (.array n e)) (he : P.underlying e = some (.int k)) (hce : P.cellsOf e = 1) (hct : P.cellsOf t = n)
    (h : laidMet P (a :: b :: (name, Lib.tabData k zs) :: rest) W) : Lib.TabIs P W name k zs := by
  obtain ⟨a1, a2⟩ := a
  obtain ⟨b1, b2⟩ := b
  obtain ⟨ps, ⟨_, _, _, _, _, q1, _, _, _, _, ⟨_, _, _, _, _, q2, _, _, _, _, ⟨g', t', cs, fuel, p, q, hg', ht', hvar, hd, _, _⟩, _⟩, _⟩, _⟩ := h
  obtain rfl := Option.some.inj (hg.symm.trans hg')
  obtain rfl := Option.some.inj (hty.symm.trans ht')
  unfold Lib.TabIs
  rw [hvar, ← Lib.cells_of_tab ht he hce hct hd]
theorem table {W : World} (hL : laidMetH Tryd.prog Rows.pobjApartRow.laid W) : PTab W := by
  have h' : laidMet Tryd.prog [("math/bits.deBruijn32tab", Rows.laid_math_bits_deBruijn32tab), ("math/bits.deBruijn64tab", Rows.laid_math_bits_deBruijn64tab), ("internal/strconv.uint64pow10", Lib.tabData .u64 Lib.pow10Tab), ("bytes.ErrTooLarge", Rows.laid_bytes_ErrTooLarge)] W := hL
  exact tab_third (g := 1) (t := 91) (e := 65) (n := 20) (by kernel_rfl) (by kernel_rfl) Tryd.underlying91 Tryd.underlying65 (by kernel_rfl) (by kernel_rfl) h'


theorem walk {H : Type} {enc : TypeId × Value → H} {w : World} {d0 d1 : DataW H} {p0 p1 : List MemPlace} (cs cs1 : Array Value) (h : DataW.Trod enc Tryd.prog w 0 (fun _ => true) true 26 (.agg cs) d0 p0) (h1 : DataW.Trod enc Tryd.prog w 0 (fun _ => true) true 26 (.agg cs1) d1 p1) (hk : Rows.uptoBulk d0 ≤ 1048576) (hk1 : Rows.uptoBulk d1 ≤ 1048576) (ht : PTab w) :
    Calls Tryd.prog 4 #[.agg cs, .agg cs1] w fun e w' => e = .returned (.bool true) ∧ Up w w' := by
  obtain ⟨fuel, hf⟩ := h
  obtain ⟨a, e, ha, hba⟩ := pobj_open fuel _ _ hf
  obtain rfl : cs = a.cells.toArray := by
    rw [← e]
    simp [Value.cells]
  obtain ⟨fuel1, hf1⟩ := h1
  obtain ⟨b, e1, hb, hbb⟩ := pobj_open fuel1 _ _ hf1
  obtain rfl : cs1 = b.cells.toArray := by
    rw [← e1]
    simp [Value.cells]
  cases hla : lightR 41 a
  · exact walk1 a b w ha hb hla
  cases hlb : lightR 41 b
  · exact walk2 a b w ha hb hla hlb
  cases hsa : sndR 32 true a
  · exact walk3 a b w ha hb hla hlb hsa
  cases hsb : sndR 32 true b
  · exact walk4 a b w ha hb hla hlb hsa hsb
  exact walk5 a b w ha hb hla hlb hsa hsb ht (Nat.le_trans (hba 33) hk) (Nat.le_trans (hbb 33) hk1)

theorem own : ownKnob Tryd.prog.godebug = none := by kernel_rfl
theorem laidOut : laidOutB Tryd.prog = true := by kernel_rfl
set_option maxRecDepth 100000 in
/-- what the walk gives, for every argument and every world that holds the listed variables -/
theorem contract (H : Type) (enc : TypeId × Value → H) (W : World) (base : Nat) (args : Array Value) (ds gs : List (DataW H)) (before : List MemPlace)
    (hval : ∀ (j : Nat) t v, Tryd.f4.params[j]? = some t → args[j]? = some v → Value.okWide Tryd.prog W .any base t v)
    (hW : DataW.Whole enc Tryd.prog Tryd.f4.params.toList Rows.pobjApartSpec.vars false W args.toList ds gs before) (hL : laidMetH Tryd.prog Rows.pobjApartRow.laid W) (hk : Rows.uptoSmall H (ds ++ gs) = true) :
    Calls Tryd.prog 4 args W fun e W' => ∃ v, e = .returned v ∧ Rows.pobjApartSpec.post enc Tryd.prog Tryd.f4 false true false false W args v W' := by
  have hW' := hW
  obtain ⟨p, q, hA0, hV, rfl, hfz, hnd⟩ := hW
  have hA : DataW.TrodAll enc Tryd.prog W 0 (fun _ => true) true Tryd.f4.params.toList args.toList ds p := hA0
  rw [Tryd.params4] at hA hval
  obtain ⟨v0, vs0, d0, ds0, p0, q0, hargs, rfl, rfl, h0, r0⟩ := trodAll_cons hA
  obtain ⟨v1, vs1, d1, ds1, p1, q1, rfl, rfl, rfl, h1, r1⟩ := trodAll_cons r0
  obtain ⟨rfl, rfl, rfl⟩ := trodAll_nil r1
  obtain rfl : args = #[v0, v1] := by cases args; simp_all
  obtain ⟨rfl, rfl⟩ := trodVars_none hV
  have k0 := h0
  have lt0 : ∀ x ∈ p0, x.block < W.heap.size := by obtain ⟨m, hm⟩ := k0; exact DataW.trod_lt m _ _ _ hm
  have k1 := h1
  have lt1 : ∀ x ∈ p1, x.block < W.heap.size := by obtain ⟨m, hm⟩ := k1; exact DataW.trod_lt m _ _ _ hm
  have hk9 := of_decide_eq_true hk
  simp only [List.cons_append, List.nil_append, List.append_nil, Rows.uptoBulkAll] at hk9
  have hk0 : Rows.uptoBulk d0 ≤ 1048576 := by omega
  have hk1 : Rows.uptoBulk d1 ≤ 1048576 := by omega
  obtain ⟨cs0, rfl⟩ := pobjV_agg h0
  obtain ⟨cs1, rfl⟩ := pobjV_agg h1
  clear hA0 hval
  refine (walk (w := W) cs0 cs1 h0 h1 hk0 hk1 (table hL)).mono fun e W' ⟨he, bel⟩ => ?_
  subst he
  exact ⟨_, rfl, _, _, _, [], _, [], hW', trodAll_mk1 (shut_bool Tryd.underlying4 _), (trodAll_cons_mk (Below.trod laidOut (by kernel_rfl) (of_decide_eq_true (by kernel_rfl)) k0 bel lt0) (trodAll_cons_mk (Below.trod laidOut (by kernel_rfl) (of_decide_eq_true (by kernel_rfl)) k1 bel lt1) trodAll_mk0)), rfl, bel.frame _, fun h => by cases h⟩
noncomputable def low : Nat := (World.holding Tryd.prog default ⟨#[], #[], []⟩).heap.size
noncomputable def laidWorld (os : Os) : World :=
  { World.holding Tryd.prog os ⟨#[.cells #[.string ⟨#[98, 121, 116, 101, 115, 46, 66, 117, 102, 102, 101, 114, 58, 32, 116, 111, 111, 32, 108, 97, 114, 103, 101]⟩] 114], #[], []⟩ with
    heap := (((((World.holding Tryd.prog os ⟨#[.cells #[.string ⟨#[98, 121, 116, 101, 115, 46, 66, 117, 102, 102, 101, 114, 58, 32, 116, 111, 111, 32, 108, 97, 114, 103, 101]⟩] 114], #[], []⟩).heap).modify 3 fun
      | .cells _ t frozen => .cells #[.int .u8 0, .int .u8 1, .int .u8 28, .int .u8 2, .int .u8 29, .int .u8 14, .int .u8 24, .int .u8 3, .int .u8 30, .int .u8 22, .int .u8 20, .int .u8 15, .int .u8 25, .int .u8 17, .int .u8 4, .int .u8 8, .int .u8 31, .int .u8 27, .int .u8 13, .int .u8 23, .int .u8 21, .int .u8 19, .int .u8 16, .int .u8 7, .int .u8 26, .int .u8 12, .int .u8 18, .int .u8 6, .int .u8 11, .int .u8 5, .int .u8 10, .int .u8 9] t frozen
      | o => o).modify 4 fun
      | .cells _ t frozen => .cells #[.int .u8 0, .int .u8 1, .int .u8 56, .int .u8 2, .int .u8 57, .int .u8 49, .int .u8 28, .int .u8 3, .int .u8 61, .int .u8 58, .int .u8 42, .int .u8 50, .int .u8 38, .int .u8 29, .int .u8 17, .int .u8 4, .int .u8 62, .int .u8 47, .int .u8 59, .int .u8 36, .int .u8 45, .int .u8 43, .int .u8 51, .int .u8 22, .int .u8 53, .int .u8 39, .int .u8 33, .int .u8 30, .int .u8 24, .int .u8 18, .int .u8 12, .int .u8 5, .int .u8 63, .int .u8 55, .int .u8 48, .int .u8 27, .int .u8 60, .int .u8 41, .int .u8 37, .int .u8 16, .int .u8 46, .int .u8 35, .int .u8 44, .int .u8 21, .int .u8 52, .int .u8 32, .int .u8 23, .int .u8 11, .int .u8 54, .int .u8 26, .int .u8 40, .int .u8 15, .int .u8 34, .int .u8 20, .int .u8 31, .int .u8 10, .int .u8 25, .int .u8 14, .int .u8 19, .int .u8 9, .int .u8 13, .int .u8 8, .int .u8 7, .int .u8 6] t frozen
      | o => o).modify 1 fun
      | .cells _ t frozen => .cells #[.int .u64 1, .int .u64 10, .int .u64 100, .int .u64 1000, .int .u64 10000, .int .u64 100000, .int .u64 1000000, .int .u64 10000000, .int .u64 100000000, .int .u64 1000000000, .int .u64 10000000000, .int .u64 100000000000, .int .u64 1000000000000, .int .u64 10000000000000, .int .u64 100000000000000, .int .u64 1000000000000000, .int .u64 10000000000000000, .int .u64 100000000000000000, .int .u64 1000000000000000000, .int .u64 10000000000000000000] t frozen
      | o => o).modify 0 fun
      | .cells _ t frozen => .cells #[.iface 100 (.pointer (some ⟨low + 0, 0, none⟩))] t frozen
      | o => o }
theorem laid_met (os : Os) : laidMet Tryd.prog Rows.pobjApartRow.laid ((laidWorld os).forCall (fun _ _ => 0) ⟨#[], #[.agg #[.int .i64 0, .int .i64 0, .string ⟨#[]⟩, .slice none 0 0, .slice none 0 0, .slice none 0 0], .agg #[.int .i64 0, .int .i64 0, .string ⟨#[]⟩, .slice none 0 0, .slice none 0 0, .slice none 0 0]], []⟩).memory :=
  laidMet_of_run' 8 (by kernel_rfl) (by kernel_rfl)
theorem reads (os : Os) {H : Type} (enc : TypeId × Value → H) : ∃ places, DataW.whole enc Tryd.prog ((laidWorld os).forCall (fun _ _ => 0) ⟨#[], #[.agg #[.int .i64 0, .int .i64 0, .string ⟨#[]⟩, .slice none 0 0, .slice none 0 0, .slice none 0 0], .agg #[.int .i64 0, .int .i64 0, .string ⟨#[]⟩, .slice none 0 0, .slice none 0 0, .slice none 0 0]], []⟩).memory Tryd.f4.params.toList Rows.pobjApartSpec.vars false #[(.agg #[.int .i64 0, .int .i64 0, .string ⟨#[]⟩, .slice none 0 0, .slice none 0 0, .slice none 0 0] : Value), (.agg #[.int .i64 0, .int .i64 0, .string ⟨#[]⟩, .slice none 0 0, .slice none 0 0, .slice none 0 0] : Value)].toList 8 = some ([.agg [.lit (.int .i64 0), .lit (.int .i64 0), .lit (.string []), .nil, .nil, .nil], .agg [.lit (.int .i64 0), .lit (.int .i64 0), .lit (.string []), .nil, .nil, .nil]], [], places) :=
  ⟨[], by kernel_rfl⟩
set_option maxRecDepth 100000 in
theorem liftedUpto (os : Os) (started : os.Started) (H : Type) (enc : TypeId × Value → H) (F : Stop.Interp) :
    ReturnsInHanded {} Tryd.checked os 4 .any ((Rows.OpenSpec.upto Rows.pobjApartSpec).preRow enc Tryd.prog Tryd.f4 Rows.pobjApartUptoRow.domain false Rows.pobjApartUptoRow.laid) (((Rows.OpenSpec.upto Rows.pobjApartSpec).at F).post enc Tryd.prog Tryd.f4 false true false false) := by
  obtain ⟨places, hx⟩ := reads os enc
  refine returnsInHanded_of_row (C := Tryd.checked) (s := Rows.OpenSpec.upto Rows.pobjApartSpec) own started (by kernel_rfl) Tryd.func4
    (witness_row_at (enc := enc) (C := Tryd.checked) false (laidWorld os) #[.agg #[.int .i64 0, .int .i64 0, .string ⟨#[]⟩, .slice none 0 0, .slice none 0 0, .slice none 0 0], .agg #[.int .i64 0, .int .i64 0, .string ⟨#[]⟩, .slice none 0 0, .slice none 0 0, .slice none 0 0]] rfl (by kernel_rfl) (by kernel_rfl) (by kernel_rfl)
      (OpenSpec.preRow_of_cond 8 hx (by kernel_rfl) (fun k hk => by cases hk; kernel_rfl) (by kernel_rfl) (laid_met os))) ?_
  intro W base args ds gs before hval hW _ hcond _ hL _ _
  exact contract H enc W base args ds gs before hval hW hL (hcond _ rfl)
theorem saidUpto : Rows.PobjApartUptoSaid :=
  OpenClaim.holds_of_cond 4 Tryd.f4 rfl rfl rfl rfl rfl rfl rfl ⟨rfl, rfl, rfl, rfl, rfl⟩ rfl rfl rfl rfl rfl (by kernel_rfl) Tryd.func4 (by kernel_rfl)
    (of_decide_eq_true (by kernel_rfl)) (by unfold Func.isWrapper; first | (rw [if_pos (by decide +kernel)]; kernel_rfl) | (rw [if_neg (by decide +kernel)]; exact ⟨rfl, rfl⟩))
    (fun os started H enc _ F => by rw [OpenClaim.pre_eq_preRow]; exact liftedUpto os started H enc F)
theorem plain (f : FuncId) (fn : Func) (hf : Tryd.pinned.checked.prog.funcNamed "mezzotint/mezzotintlaw18.PobjApart" = some f) (hfn : Tryd.pinned.checked.prog.funcs[f]? = some fn) :
    false = Tryd.pinned.checked.prog.looks [] ∧ ∀ (j : Nat) t, fn.params[j]? = some t → Tryd.pinned.checked.prog.wantsStandIn t = false := by
  obtain rfl : f = 4 := Option.some.inj ((show Tryd.prog.funcNamed "mezzotint/mezzotintlaw18.PobjApart" = some 4 by kernel_rfl).symm.trans hf) |>.symm
  obtain rfl : fn = Tryd.f4 := (Option.some.inj (Tryd.func4.symm.trans hfn)).symm
  refine ⟨by kernel_rfl, fun j t ht => ?_⟩
  rw [Tryd.params4] at ht
  have hm : t ∈ [26, 26] := by have := Array.mem_of_getElem? ht; simpa using this
  simp only [List.mem_cons, List.not_mem_nil, or_false] at hm
  rcases hm with rfl | rfl
  · exact (show Tryd.prog.wantsStandIn 26 = false by kernel_rfl)
  · exact (show Tryd.prog.wantsStandIn 26 = false by kernel_rfl)
/-- THE CARD -/
theorem cardUpto : Rows.PobjApartUptoCardSaid :=
  Claim7.holds_tied_plain_at .later [] _ _ _ _ saidUpto (fun _ h => by cases h) (by kernel_rfl) (fun _ h => by cases h) pobjApartUpto_row_tie rfl ⟨rfl, rfl⟩ (by kernel_rfl) rfl plain (by kernel_rfl)
#print axioms cardUpto

end Go.Proofs.YtaafelkdhahaoaaDoor.pobjApart
