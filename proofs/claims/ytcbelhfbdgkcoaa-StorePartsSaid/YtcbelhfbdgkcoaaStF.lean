/- A store in which one string of two bytes is. -/
import Derived.Test.YtcbelhfbdgkcoaaStE
namespace Go.Proofs.Ytcbelhfbdgkcoaa.St
open Go.ChangeShapes Go.WideShapes Go.ChangeAt Go.RowKit
set_option linter.unusedVariables false
set_option linter.unusedSimpArgs false

/-- a store in which one string is, of two bytes -/
structure StrIs (w : World) (b gt cap gi : Nat) (free : Int) (cs : Array Value) : Prop where
  row : Row w b #[.int .i64 free, .slice (some ⟨gt, 0, none⟩) 1 cap, .slice none 0 0, .slice none 0 0, .slice none 0 0, .slice none 0 0]
  at0 : w.cell? ⟨gt, 0, none⟩ = some (.slice (some ⟨gi, 0, none⟩) 2 2)
  bts : Row w gi cs
  ne1 : gt ≠ b
  ne2 : gi ≠ b
  ne3 : gi ≠ gt
theorem StrIs.chg {S : List Nat} {w w1 : World} {b gt cap gi : Nat} {free : Int} {cs : Array Value} (h : StrIs w b gt cap gi free cs) (hc : Chg S w w1) (h1 : b ∉ S) (h2 : gt ∉ S) (h3 : gi ∉ S) : StrIs w1 b gt cap gi free cs :=
  ⟨h.row.chg hc h1, (hc.cells.1 gt 0 (cell_lt h.at0) h2).trans h.at0, h.bts.chg hc h3, h.ne1, h.ne2, h.ne3⟩
theorem StrIs.up {w w1 : World} {b gt cap gi : Nat} {free : Int} {cs : Array Value} (h : StrIs w b gt cap gi free cs) (hc : Up w w1) : StrIs w1 b gt cap gi free cs := h.chg (S := []) (Chg.of_up hc) (by simp) (by simp) (by simp)

theorem infoBytes : (Try.prog.info? 38).map (fun i => (i.zero, i.size, i.bytes)) = some (some (.slice none 0 0), 1, 24) := by kernel_rfl
theorem infoU8 : (Try.prog.info? 5).map (fun i => (i.zero, i.size, i.bytes)) = some (some (.int .u8 0), 1, 1) := by kernel_rfl

theorem results_string (tmps : Array Value) (w : World) (bo : Nat) (k : Int) (x : Bool) (a N : Int) (s : ByteArray) (r f l er : Int)
    (hR : Row w bo #[.int .i64 k, .bool x, .int .i64 a, .int .i64 N, .string s, .int .i64 r, .int .i64 f, .int .i64 l])
    (e8 : tmps[4]?.getD undef = .pointer (some ⟨bo, 0, none⟩)) (e9 : tmps[5]?.getD undef = .int .i64 er) :
    (results Try.f39 tmps).run Try.prog w = .ok (.tuple #[.agg #[.int .i64 k, .bool x, .int .i64 a, .int .i64 N, .string s, .int .i64 r, .int .i64 f, .int .i64 l], .int .i64 er]) w := by
  have c0 := hR.cell 0 rfl
  have c1 := hR.cell 1 rfl
  have c2 := hR.cell 2 rfl
  have c3 := hR.cell 3 rfl
  have c4 := hR.cell 4 rfl
  have c5 := hR.cell 5 rfl
  have c6 := hR.cell 6 rfl
  have c7 := hR.cell 7 rfl
  simp [results, Try.results39, go_sem, e8, e9, c0, c1, c2, c3, c4, c5, c6, c7]
set_option maxRecDepth 8000 in
set_option maxHeartbeats 4000000 in
theorem string_calls (b : Nat) (free : Int) (hf : 2 ≤ free) (hf2 : free ≤ 1048576) (w : World) (h : Empty w b free) :
    Calls Try.prog 39 #[.pointer (some ⟨b, 0, none⟩), .int .i64 2] w fun E w' => E = .returned (.tuple #[.agg #[.int .i64 6, .bool false, .int .i64 0, .int .i64 0, .string ⟨#[]⟩, .int .i64 0, .int .i64 0, .int .i64 2], .int .i64 0]) ∧ (∃ gt cap gi, w.heap.size ≤ gt ∧ w.heap.size ≤ gi ∧ StrIs w' b gt cap gi (free - 2) #[.int .u8 0, .int .u8 0]) ∧ Chg [b] w w' := by
  have hb := Row.lt h
  have HE := Lib.hid (show Row w b #[.int .i64 free, .slice none 0 0, .slice none 0 0, .slice none 0 0, .slice none 0 0, .slice none 0 0] from h)
  have hmx : max (2 : Int) 0 = 2 := by decide
  obtain ⟨i1, ki, kz0, kz1, kz2⟩ := info_parts infoBytes
  have hmk : ∀ W : World, (Instr.makeSlice 38 (.int .i64 2) (.int .i64 2)).run Try.prog W = .ok (.slice (some ⟨W.heap.size, 0, none⟩) 2 2) (W.alloc (.cells #[.int .u8 0, .int .u8 0] 5)) := fun _ => by kernel_rfl
  clear h
  go_enter Try.func39, Try.ntmps39
  go_wp2_with (go_at_call 33; ((with_reducible refine (take_calls b free 2 65535 2 _ _ _ _ _ (by omega) (by omega) (by omega) (by omega) hf2 _ (Row.up HE.out (by (repeat' (first | (with_reducible exact Up.refl _) | (with_reducible assumption) | (with_reducible refine Up.alloc ?_ _) | (with_reducible refine Up.drew ?_) | (with_reducible refine Up.drewN ?_ _) | (with_reducible refine Up.setCell ?_ ?_ _) | (with_reducible refine Up.call ?_ (by with_reducible assumption)) | go_size))))).mono ?_); rintro E w1 ⟨rfl, hr1, hc1⟩; have HR1 := Lib.hid hr1; have RZ1 : Row w1 w.heap.size #[.int .i64 0, .bool false, .int .i64 0, .int .i64 0, .string ⟨#[]⟩, .int .i64 0, .int .i64 0, .int .i64 0] := Row.chg (show Row _ w.heap.size #[.int .i64 0, .bool false, .int .i64 0, .int .i64 0, .string ⟨#[]⟩, .int .i64 0, .int .i64 0, .int .i64 0] by (repeat' (first | (with_reducible assumption) | (with_reducible refine Row.at _ _ ?_; (simp; done)) | (with_reducible refine Row.alloc ?_ _) | (with_reducible refine Row.drew ?_) | (with_reducible refine Row.drewN ?_ _) | (with_reducible refine Row.other ?_ (by first | (simp; done) | (simp; omega) | omega) _) | (with_reducible refine Row.up ?_ (by with_reducible assumption)) | (with_reducible refine Row.chg ?_ (by with_reducible assumption) (by first | (simp; done) | (simp; omega)))))) hc1 (by simp; omega); have z1 := hc1.size; (try simp at z1); have lz1 := RZ1.lt; have lb1 := hr1.lt; have s1 : w1.cell? ⟨b, 1, none⟩ = some (.slice none 0 0) := hr1.cell 1 rfl; have f1 := hr1.free 1; clear hr1))
  go_region_law (first
    | (refine step_append_lies _ rfl _ _ 84 rfl 0 38 i1 _ 1 24 Try.underlying84 ki kz0 kz1 kz2 rfl (by decide) (.slice none 0 0) 0 [] rfl (World.ownsRow_nil _ _ _ _) _ 1 1 [.slice (some ⟨w1.heap.size, 0, none⟩) 2 2] rfl rfl (news_at (show Row _ _ #[.slice (some ⟨w1.heap.size, 0, none⟩) 2 2] by (repeat' (first | (with_reducible assumption) | (with_reducible refine Row.at _ _ ?_; (simp; done)) | (with_reducible refine Row.alloc ?_ _) | (with_reducible refine Row.drew ?_) | (with_reducible refine Row.drewN ?_ _) | (with_reducible refine Row.other ?_ (by first | (simp; done) | (simp; omega) | omega) _) | (with_reducible refine Row.up ?_ (by with_reducible assumption)) | (with_reducible refine Row.chg ?_ (by with_reducible assumption) (by first | (simp; done) | (simp; omega)))))) rfl) (by simp [Value.oneCell']) (by decide) (by decide) (by decide) (Nat.zero_le _) _ rfl ?_; intro g cap w2 hown hgr hat hg1; have HO := Lib.hid hown; have HA := Lib.hid hat; have HG := Lib.hid hgr; have HU := Lib.hid (grown_up (Up.refl _) hgr (fun k hk => by simp [Value.ownBlock] at hk)); have hu2 := HU.out; have RS2 := HR1.out.up (show Up w1 w2 by (repeat' (first | (with_reducible exact Up.refl _) | (with_reducible assumption) | (with_reducible refine Up.alloc ?_ _) | (with_reducible refine Up.drew ?_) | (with_reducible refine Up.drewN ?_ _) | (with_reducible refine Up.setCell ?_ ?_ _) | (with_reducible refine Up.call ?_ (by with_reducible assumption)) | go_size))); have s2 : w2.cell? ⟨b, 1, none⟩ = some (.slice none 0 0) := RS2.cell 1 rfl; have f2 := RS2.free 1; have RZ2 := RZ1.up (show Up w1 w2 by (repeat' (first | (with_reducible exact Up.refl _) | (with_reducible assumption) | (with_reducible refine Up.alloc ?_ _) | (with_reducible refine Up.drew ?_) | (with_reducible refine Up.drewN ?_ _) | (with_reducible refine Up.setCell ?_ ?_ _) | (with_reducible refine Up.call ?_ (by with_reducible assumption)) | go_size))); have q0 : w2.cell? ⟨w.heap.size, 0, none⟩ = some (.int .i64 0) := RZ2.cell 0 rfl; have y0 := RZ2.free 0; have q1 : w2.cell? ⟨w.heap.size, 1, none⟩ = some (.bool false) := RZ2.cell 1 rfl; have y1 := RZ2.free 1; have q2 : w2.cell? ⟨w.heap.size, 2, none⟩ = some (.int .i64 0) := RZ2.cell 2 rfl; have y2 := RZ2.free 2; have q3 : w2.cell? ⟨w.heap.size, 3, none⟩ = some (.int .i64 0) := RZ2.cell 3 rfl; have y3 := RZ2.free 3; have q4 : w2.cell? ⟨w.heap.size, 4, none⟩ = some (.string ⟨#[]⟩) := RZ2.cell 4 rfl; have y4 := RZ2.free 4; have q5 : w2.cell? ⟨w.heap.size, 5, none⟩ = some (.int .i64 0) := RZ2.cell 5 rfl; have y5 := RZ2.free 5; have q6 : w2.cell? ⟨w.heap.size, 6, none⟩ = some (.int .i64 0) := RZ2.cell 6 rfl; have y6 := RZ2.free 6; have q7 : w2.cell? ⟨w.heap.size, 7, none⟩ = some (.int .i64 0) := RZ2.cell 7 rfl; have y7 := RZ2.free 7; have lz2 := RZ2.lt; have RM2 : Row w2 w1.heap.size #[.int .u8 0, .int .u8 0] := Row.up (show Row _ w1.heap.size #[.int .u8 0, .int .u8 0] by (repeat' (first | (with_reducible assumption) | (with_reducible refine Row.at _ _ ?_; (simp; done)) | (with_reducible refine Row.alloc ?_ _) | (with_reducible refine Row.drew ?_) | (with_reducible refine Row.drewN ?_ _) | (with_reducible refine Row.other ?_ (by first | (simp; done) | (simp; omega) | omega) _) | (with_reducible refine Row.up ?_ (by with_reducible assumption)) | (with_reducible refine Row.chg ?_ (by with_reducible assumption) (by first | (simp; done) | (simp; omega)))))) hu2; clear hown hat hgr))
  all_goals go_wp2
  all_goals
    have hz2 := hu2.size
    (try simp at hz2)
    have hgl : w1.heap.size + 1 + 1 ≤ g := by
      rcases HA.out with h1 | h1
      · simp [Value.ownBlock] at h1
      · simp at h1; omega
    (try simp only [Exit.inBlock, Exit.then])
    refine bodyPost_ret (results_string _ _ w.heap.size 6 false 0 0 ⟨#[]⟩ 0 0 2 0 (by apply cast; (case h => (repeat (first | (with_reducible assumption) | (with_reducible apply Row.at; (simp; done)) | (with_reducible apply Row.alloc) | (with_reducible apply Row.drew) | (with_reducible apply Row.drewN) | (with_reducible apply Row.set) | ((with_reducible apply Row.other); (case hp => first | (simp; done) | (simp; omega) | omega))))); (case e => rfl)) rfl rfl) rfl ?_
    refine ⟨rfl, ⟨g, cap, w1.heap.size, by omega, by omega, ⟨(by apply cast; (case h => (repeat (first | (with_reducible assumption) | (with_reducible apply Row.at; (simp; done)) | (with_reducible apply Row.alloc) | (with_reducible apply Row.drew) | (with_reducible apply Row.drewN) | (with_reducible apply Row.set) | ((with_reducible apply Row.other); (case hp => first | (simp; done) | (simp; omega) | omega))))); (case e => rfl)), ?_, (by (repeat' (first | (with_reducible assumption) | (with_reducible refine Row.at _ _ ?_; (simp; done)) | (with_reducible refine Row.alloc ?_ _) | (with_reducible refine Row.drew ?_) | (with_reducible refine Row.drewN ?_ _) | (with_reducible refine Row.other ?_ (by first | (simp; done) | (simp; omega) | omega) _) | (with_reducible refine Row.up ?_ (by with_reducible assumption)) | (with_reducible refine Row.chg ?_ (by with_reducible assumption) (by first | (simp; done) | (simp; omega)))))), by omega, by omega, by omega⟩⟩, ?_⟩
    · refine Eq.trans ((Chg.cells (S := [b, w.heap.size]) (W := w2) ?_).1 g 0 hg1 ?_) (HO.out.cellAt 0 (by decide))
      · (repeat' (first | (with_reducible exact Chg.refl _ _) | (with_reducible assumption) | (with_reducible refine Chg.alloc ?_ _) | (with_reducible refine Chg.drew ?_) | (with_reducible refine Chg.drewN ?_ _) | (with_reducible refine Chg.setCell ?_ ?_ _) | (with_reducible refine Chg.upc ?_ (by with_reducible assumption)) | (with_reducible refine Chg.call ?_ (by with_reducible assumption) ?_) | (refine Or.inl ?_; (simp; done)) | (simp; done) | (simp; omega) | omega))
      · simp
        omega
    · (repeat' (first | (with_reducible exact Chg.refl _ _) | (with_reducible assumption) | (with_reducible refine Chg.alloc ?_ _) | (with_reducible refine Chg.drew ?_) | (with_reducible refine Chg.drewN ?_ _) | (with_reducible refine Chg.setCell ?_ ?_ _) | (with_reducible refine Chg.upc ?_ (by with_reducible assumption)) | (with_reducible refine Chg.call ?_ (by with_reducible assumption) ?_) | (refine Or.inl ?_; (simp; done)) | (simp; done) | (simp; omega) | omega))

theorem within_str (w : World) :
    Calls Try.prog 65 #[.agg #[.int .i64 6, .bool false, .int .i64 0, .int .i64 0, .string ⟨#[]⟩, .int .i64 0, .int .i64 0, .int .i64 2], .int .i64 2] w fun E w' => E = .returned (.bool true) ∧ Up w w' := by
  go_enter Try.func65, Try.ntmps65
  go_wp2
  go_ret
  exact ⟨rfl, by (repeat' (first | (with_reducible exact Up.refl _) | (with_reducible assumption) | (with_reducible refine Up.alloc ?_ _) | (with_reducible refine Up.drew ?_) | (with_reducible refine Up.drewN ?_ _) | (with_reducible refine Up.setCell ?_ ?_ _) | (with_reducible refine Up.call ?_ (by with_reducible assumption)) | go_size))⟩

theorem valid_str (b gt cap gi : Nat) (free : Int) (cs : Array Value) (w : World) (h : StrIs w b gt cap gi free cs) :
    Calls Try.prog 34 #[.pointer (some ⟨b, 0, none⟩), .agg #[.int .i64 6, .bool false, .int .i64 0, .int .i64 0, .string ⟨#[]⟩, .int .i64 0, .int .i64 0, .int .i64 2]] w fun E w' => E = .returned (.bool true) ∧ Up w w' := by
  have q1 : w.cell? ⟨b, 1, none⟩ = some (.slice (some ⟨gt, 0, none⟩) 1 cap) := h.row.cell 1 rfl
  have hb := h.row.lt
  have hb1 : b < w.heap.size + 1 := by omega
  have hg := cell_lt h.at0
  have hg1 : gt < w.heap.size + 1 := by omega
  have q0 := h.at0
  clear h
  go_enter Try.func34, Try.ntmps34
  go_wp2
  go_region_held3 (fun w' => w'.cell? ⟨w.heap.size, 0, none⟩ = some (.int .i64 6) ∧ w'.cell? ⟨w.heap.size, 1, none⟩ = some (.bool false) ∧ w'.cell? ⟨w.heap.size, 2, none⟩ = some (.int .i64 0) ∧ w'.cell? ⟨w.heap.size, 3, none⟩ = some (.int .i64 0) ∧ w'.cell? ⟨w.heap.size, 4, none⟩ = some (.string ⟨#[]⟩) ∧ w'.cell? ⟨w.heap.size, 5, none⟩ = some (.int .i64 0) ∧ w'.cell? ⟨w.heap.size, 6, none⟩ = some (.int .i64 0) ∧ w'.cell? ⟨w.heap.size, 7, none⟩ = some (.int .i64 2) ∧ w'.cell? ⟨b, 1, none⟩ = some (.slice (some ⟨gt, 0, none⟩) 1 cap) ∧ w'.cell? ⟨gt, 0, none⟩ = some (.slice (some ⟨gi, 0, none⟩) 2 2)) (first | (with_reducible exact ⟨o0, o1, o2, o3, o4, o5, o6, o7, g2, g0⟩) | go_keep) (first
    | (go_at_call 65; ((with_reducible refine (within_str _).mono ?_); rintro E w1 ⟨rfl, hu1⟩; have Ro : Row w1 (w.heap.size) #[.int .i64 6, .bool false, .int .i64 0, .int .i64 0, .string ⟨#[]⟩, .int .i64 0, .int .i64 0, .int .i64 2] := Row.up (show Row _ (w.heap.size) #[.int .i64 6, .bool false, .int .i64 0, .int .i64 0, .string ⟨#[]⟩, .int .i64 0, .int .i64 0, .int .i64 2] by (repeat' (first | (with_reducible assumption) | (with_reducible refine Row.at _ _ ?_; (simp; done)) | (with_reducible refine Row.alloc ?_ _) | (with_reducible refine Row.drew ?_) | (with_reducible refine Row.drewN ?_ _) | (with_reducible refine Row.other ?_ (by first | (simp; done) | (simp; omega) | omega) _) | (with_reducible refine Row.up ?_ (by with_reducible assumption)) | (with_reducible refine Row.chg ?_ (by with_reducible assumption) (by first | (simp; done) | (simp; omega)))))) hu1; have o0 := Ro.cell 0 rfl; have o1 := Ro.cell 1 rfl; have o2 := Ro.cell 2 rfl; have o3 := Ro.cell 3 rfl; have o4 := Ro.cell 4 rfl; have o5 := Ro.cell 5 rfl; have o6 := Ro.cell 6 rfl; have o7 := Ro.cell 7 rfl; have lo := Ro.lt; have g2 := ((show Up w w1 by (repeat' (first | (with_reducible exact Up.refl _) | (with_reducible assumption) | (with_reducible refine Up.alloc ?_ _) | (with_reducible refine Up.drew ?_) | (with_reducible refine Up.drewN ?_ _) | (with_reducible refine Up.setCell ?_ ?_ _) | (with_reducible refine Up.call ?_ (by with_reducible assumption)) | go_size))).cells.1 b 1 hb).trans q1; have g0 := ((show Up w w1 by (repeat' (first | (with_reducible exact Up.refl _) | (with_reducible assumption) | (with_reducible refine Up.alloc ?_ _) | (with_reducible refine Up.drew ?_) | (with_reducible refine Up.drewN ?_ _) | (with_reducible refine Up.setCell ?_ ?_ _) | (with_reducible refine Up.call ?_ (by with_reducible assumption)) | go_size))).cells.1 gt 0 hg).trans q0)))
  all_goals go_wp2
  go_ret
  exact ⟨rfl, by (repeat' (first | (with_reducible exact Up.refl _) | (with_reducible assumption) | (with_reducible refine Up.alloc ?_ _) | (with_reducible refine Up.drew ?_) | (with_reducible refine Up.drewN ?_ _) | (with_reducible refine Up.setCell ?_ ?_ _) | (with_reducible refine Up.call ?_ (by with_reducible assumption)) | go_size))⟩

theorem is_str (b gt cap gi : Nat) (free : Int) (cs : Array Value) (w : World) (h : StrIs w b gt cap gi free cs) :
    Calls Try.prog 35 #[.pointer (some ⟨b, 0, none⟩), .agg #[.int .i64 6, .bool false, .int .i64 0, .int .i64 0, .string ⟨#[]⟩, .int .i64 0, .int .i64 0, .int .i64 2], .int .i64 6] w fun E w' => E = .returned (.bool true) ∧ Up w w' := by
  have HA := Lib.hid h
  clear h
  go_enter Try.func35, Try.ntmps35
  go_wp2_with (go_at_call 34; ((with_reducible refine (valid_str b gt cap gi free cs _ (HA.out.up (by (repeat' (first | (with_reducible exact Up.refl _) | (with_reducible assumption) | (with_reducible refine Up.alloc ?_ _) | (with_reducible refine Up.drew ?_) | (with_reducible refine Up.drewN ?_ _) | (with_reducible refine Up.setCell ?_ ?_ _) | (with_reducible refine Up.call ?_ (by with_reducible assumption)) | go_size))))).mono ?_); rintro E w1 ⟨rfl, hu1⟩))
  go_ret
  exact ⟨rfl, by (repeat' (first | (with_reducible exact Up.refl _) | (with_reducible assumption) | (with_reducible refine Up.alloc ?_ _) | (with_reducible refine Up.drew ?_) | (with_reducible refine Up.drewN ?_ _) | (with_reducible refine Up.setCell ?_ ?_ _) | (with_reducible refine Up.call ?_ (by with_reducible assumption)) | go_size))⟩

set_option maxRecDepth 4000 in
theorem text_str (b gt cap gi : Nat) (free : Int) (cs : Array Value) (w : World) (h : StrIs w b gt cap gi free cs) :
    Calls Try.prog 42 #[.pointer (some ⟨b, 0, none⟩), .agg #[.int .i64 6, .bool false, .int .i64 0, .int .i64 0, .string ⟨#[]⟩, .int .i64 0, .int .i64 0, .int .i64 2]] w fun E w' => E = .returned (.slice (some ⟨gi, 0, none⟩) 2 2) ∧ Up w w' := by
  have q1 : w.cell? ⟨b, 1, none⟩ = some (.slice (some ⟨gt, 0, none⟩) 1 cap) := h.row.cell 1 rfl
  have hb := h.row.lt
  have hb1 : b < w.heap.size + 1 := by omega
  have hg := cell_lt h.at0
  have hg1 : gt < w.heap.size + 1 := by omega
  have q0 := h.at0
  clear h
  obtain ⟨i0, ji, jz0, jz1, jz2⟩ := info_parts infoU8
  go_enter Try.func42, Try.ntmps42
  go_wp2
  go_region
  go_wp2
  go_ret
  exact ⟨rfl, by (repeat' (first | (with_reducible exact Up.refl _) | (with_reducible assumption) | (with_reducible refine Up.alloc ?_ _) | (with_reducible refine Up.drew ?_) | (with_reducible refine Up.drewN ?_ _) | (with_reducible refine Up.setCell ?_ ?_ _) | (with_reducible refine Up.call ?_ (by with_reducible assumption)) | go_size))⟩

theorem free_calls (b : Nat) (free : Int) (w : World) (h0 : w.cell? ⟨b, 0, none⟩ = some (.int .i64 free)) :
    Calls Try.prog 30 #[.pointer (some ⟨b, 0, none⟩)] w fun E w' => E = .returned (.int .i64 free) ∧ w = w' := by
  go_enter Try.func30, Try.ntmps30
  go_wp2
  go_ret
  exact ⟨rfl, rfl⟩

end Go.Proofs.Ytcbelhfbdgkcoaa.St
