/- New, take, Array. -/
import Derived.Test.YtcbelhfbdgkcoaaStC
namespace Go.Proofs.Ytcbelhfbdgkcoaa.St
open Go.ChangeShapes Go.WideShapes Go.ChangeAt Go.RowKit
set_option linter.unusedVariables false
set_option linter.unusedSimpArgs false

theorem new_calls (free : Int) (h0 : 1 ≤ free) (h1 : free ≤ 1048576) (w : World) :
    Calls Try.prog 6 #[.int .i64 free] w fun E w' => E = .returned (.tuple #[.pointer (some ⟨w.heap.size, 0, none⟩), .int .i64 0]) ∧ Up w w' ∧ Empty w' w.heap.size free := by
  have d0 : decide (free < 1) = false := decide_eq_false (by omega)
  have d1 : decide ((1048576 : Int) < free) = false := decide_eq_false (by omega)
  go_enter Try.func6, Try.ntmps6
  go_wp2
  go_returns
  exact ⟨rfl, by (repeat' (first | (with_reducible exact Up.refl _) | (with_reducible assumption) | (with_reducible refine Up.alloc ?_ _) | (with_reducible refine Up.drew ?_) | (with_reducible refine Up.drewN ?_ _) | (with_reducible refine Up.setCell ?_ ?_ _) | (with_reducible refine Up.call ?_ (by with_reducible assumption)) | go_size)), (show Row _ w.heap.size #[.int .i64 free, .slice none 0 0, .slice none 0 0, .slice none 0 0, .slice none 0 0, .slice none 0 0] by (repeat' (first | (with_reducible assumption) | (with_reducible refine Row.at _ _ ?_; (simp; done)) | (with_reducible refine Row.alloc ?_ _) | (with_reducible refine Row.drew ?_) | (with_reducible refine Row.drewN ?_ _) | (with_reducible refine Row.other ?_ (by first | (simp; done) | (simp; omega) | omega) _) | (with_reducible refine Row.up ?_ (by with_reducible assumption)) | (with_reducible refine Row.chg ?_ (by with_reducible assumption) (by first | (simp; done) | (simp; omega))))))⟩

theorem take_calls (b : Nat) (free n most cells : Int) (v1 v2 v3 v4 v5 : Value) (h0 : 0 ≤ n) (h1 : n ≤ most) (h2 : cells ≤ free) (h3 : 0 ≤ cells) (h4 : free ≤ 1048576) (w : World) (h : Row w b #[.int .i64 free, v1, v2, v3, v4, v5]) :
    Calls Try.prog 33 #[.pointer (some ⟨b, 0, none⟩), .int .i64 n, .int .i64 most, .int .i64 cells] w fun E w' => E = .returned (.int .i64 0) ∧ Row w' b #[.int .i64 (free - cells), v1, v2, v3, v4, v5] ∧ Chg [b] w w' := by
  have hb := h.lt
  have hR := Lib.hid h
  have q0 : w.cell? ⟨b, 0, none⟩ = some (.int .i64 free) := h.cell 0 rfl
  have f0 := h.free 0
  have d0 : decide (n < 0) = false := decide_eq_false (by omega)
  have d1 : decide (most < n) = false := decide_eq_false (by omega)
  have d2 : decide (free < cells) = false := decide_eq_false (by omega)
  clear h
  go_enter Try.func33, Try.ntmps33
  go_wp2
  go_ret
  exact ⟨rfl, Row.set hR.out 0 _, by (repeat' (first | (with_reducible exact Chg.refl _ _) | (with_reducible assumption) | (with_reducible refine Chg.alloc ?_ _) | (with_reducible refine Chg.drew ?_) | (with_reducible refine Chg.drewN ?_ _) | (with_reducible refine Chg.setCell ?_ ?_ _) | (with_reducible refine Chg.upc ?_ (by with_reducible assumption)) | (with_reducible refine Chg.call ?_ (by with_reducible assumption) ?_) | (refine Or.inl ?_; (simp; done)) | (simp; done) | (simp; omega) | omega))⟩

theorem infoList : (Try.prog.info? 33).map (fun i => (i.zero, i.size, i.bytes)) = some (some (.slice none 0 0), 1, 24) := by kernel_rfl
theorem made_cells (n : Nat) : (madeCells #[.int .i64 0, .bool false, .int .i64 0, .int .i64 0, .string ⟨#[]⟩, .int .i64 0, .int .i64 0, .int .i64 0] (n * 8)).toList = cellsOf (List.replicate n (0, 0)) := by
  apply List.ext_getElem?
  intro j
  by_cases hj : j < n * 8
  · have hq : j / 8 < n := by omega
    have hr : j % 8 < 8 := Nat.mod_lt _ (by decide)
    have e : (itemC (0, 0))[j % 8]? = some ((itemC (0, 0))[j % 8]'(by exact hr)) := List.getElem?_eq_getElem _
    have h2 := cellsOf_get (List.replicate n (0, 0)) (j / 8) (0, 0) (by simp [hq]) (j % 8) _ e
    rw [show j / 8 * 8 + j % 8 = j by omega] at h2
    rw [h2]
    simp only [madeCells, Array.toList_map, Array.toList_range, List.getElem?_map, List.getElem?_range hj, Option.map_some]
    congr 1
    have : ∀ r, r < 8 → (#[.int .i64 0, .bool false, .int .i64 0, .int .i64 0, .string ⟨#[]⟩, .int .i64 0, .int .i64 0, .int .i64 0] : Array Value)[r]! = (itemC (0, 0)).getD r undef := by
      intro r hr
      have : r = 0 ∨ r = 1 ∨ r = 2 ∨ r = 3 ∨ r = 4 ∨ r = 5 ∨ r = 6 ∨ r = 7 := by omega
      rcases this with rfl | rfl | rfl | rfl | rfl | rfl | rfl | rfl <;> rfl
    show (#[.int .i64 0, .bool false, .int .i64 0, .int .i64 0, .string ⟨#[]⟩, .int .i64 0, .int .i64 0, .int .i64 0] : Array Value)[j % 8]! = _
    rw [this _ hr, List.getD_eq_getElem?_getD, e]
    rfl
  · rw [List.getElem?_eq_none (by rw [Array.length_toList, size_madeCells]; omega), List.getElem?_eq_none (by rw [cellsOf_length, List.length_replicate]; omega)]

theorem results_array (tmps : Array Value) (w : World) (bo : Nat) (k : Int) (x : Bool) (a N : Int) (s : ByteArray) (r f l er : Int)
    (hR : Row w bo #[.int .i64 k, .bool x, .int .i64 a, .int .i64 N, .string s, .int .i64 r, .int .i64 f, .int .i64 l])
    (e8 : tmps[4]?.getD undef = .pointer (some ⟨bo, 0, none⟩)) (e9 : tmps[5]?.getD undef = .int .i64 er) :
    (results Try.f7 tmps).run Try.prog w = .ok (.tuple #[.agg #[.int .i64 k, .bool x, .int .i64 a, .int .i64 N, .string s, .int .i64 r, .int .i64 f, .int .i64 l], .int .i64 er]) w := by
  have c0 := hR.cell 0 rfl
  have c1 := hR.cell 1 rfl
  have c2 := hR.cell 2 rfl
  have c3 := hR.cell 3 rfl
  have c4 := hR.cell 4 rfl
  have c5 := hR.cell 5 rfl
  have c6 := hR.cell 6 rfl
  have c7 := hR.cell 7 rfl
  simp [results, Try.results7, go_sem, e8, e9, c0, c1, c2, c3, c4, c5, c6, c7]
set_option maxRecDepth 8000 in
set_option maxHeartbeats 4000000 in
theorem array_calls (b : Nat) (free : Int) (n : Nat) (hn : n ≤ 1000) (hf : (n : Int) + 1 ≤ free) (hf2 : free ≤ 1048576) (w : World) (h : Empty w b free) :
    Calls Try.prog 7 #[.pointer (some ⟨b, 0, none⟩), .int .i64 n] w fun E w' => E = .returned (.tuple #[.agg #[.int .i64 7, .bool false, .int .i64 0, .int .i64 0, .string ⟨#[]⟩, .int .i64 0, .int .i64 0, .int .i64 n], .int .i64 0]) ∧ (∃ gl cap gi, w.heap.size ≤ gl ∧ w.heap.size ≤ gi ∧ ArrIs w' b gl cap gi (free - (1 + n)) n (cellsOf (List.replicate n (0, 0)))) ∧ Chg [b] w w' := by
  have hb := Row.lt h
  have HE := Lib.hid (show Row w b #[.int .i64 free, .slice none 0 0, .slice none 0 0, .slice none 0 0, .slice none 0 0, .slice none 0 0] from h)
  have hmx : max (n : Int) 0 = n := by omega
  obtain ⟨i0, ji, jz0, jz1, jz2⟩ := info_parts infoObj
  obtain ⟨i1, ki, kz0, kz1, kz2⟩ := info_parts infoList
  have hmk : ∀ W : World, (Instr.makeSlice 33 (.int .i64 (n : Int)) (.int .i64 (n : Int))).run Try.prog W = .ok (.slice (some ⟨W.heap.size, 0, none⟩) n n) (W.alloc (.cells (madeCells #[.int .i64 0, .bool false, .int .i64 0, .int .i64 0, .string ⟨#[]⟩, .int .i64 0, .int .i64 0, .int .i64 0] (n * 8)) 27)) := fun W => by
    have := run_make (P := Try.prog) W 33 27 i0 _ Try.underlying33 ji jz0 .i64 .i64 (n : Int) (n : Int) (by omega) (Int.le_refl _) (by rw [jz2]; omega) (by omega)
    rw [jz1, Int.toNat_natCast] at this
    exact this
  clear h
  have hd : (free - (1 + (n : Int))) ≤ 1048576 := by omega
  go_enter Try.func7, Try.ntmps7
  go_wp2_with (go_at_call 33; ((with_reducible refine (take_calls b free n 65535 (1 + n) _ _ _ _ _ (by omega) (by omega) (by omega) (by omega) hf2 _ (Row.up HE.out (by (repeat' (first | (with_reducible exact Up.refl _) | (with_reducible assumption) | (with_reducible refine Up.alloc ?_ _) | (with_reducible refine Up.drew ?_) | (with_reducible refine Up.drewN ?_ _) | (with_reducible refine Up.setCell ?_ ?_ _) | (with_reducible refine Up.call ?_ (by with_reducible assumption)) | go_size))))).mono ?_); rintro E w1 ⟨rfl, hr1, hc1⟩; have HR1 := Lib.hid hr1; have RZ1 : Row w1 w.heap.size #[.int .i64 0, .bool false, .int .i64 0, .int .i64 0, .string ⟨#[]⟩, .int .i64 0, .int .i64 0, .int .i64 0] := Row.chg (show Row _ w.heap.size #[.int .i64 0, .bool false, .int .i64 0, .int .i64 0, .string ⟨#[]⟩, .int .i64 0, .int .i64 0, .int .i64 0] by (repeat' (first | (with_reducible assumption) | (with_reducible refine Row.at _ _ ?_; (simp; done)) | (with_reducible refine Row.alloc ?_ _) | (with_reducible refine Row.drew ?_) | (with_reducible refine Row.drewN ?_ _) | (with_reducible refine Row.other ?_ (by first | (simp; done) | (simp; omega) | omega) _) | (with_reducible refine Row.up ?_ (by with_reducible assumption)) | (with_reducible refine Row.chg ?_ (by with_reducible assumption) (by first | (simp; done) | (simp; omega)))))) hc1 (by simp; omega); have z1 := hc1.size; (try simp at z1); have lz1 := RZ1.lt; have lb1 := hr1.lt; have s1 : w1.cell? ⟨b, 2, none⟩ = some (.slice none 0 0) := hr1.cell 2 rfl; have f1 := hr1.free 2; clear hr1))
  go_region_law (first
    | (refine step_append_lies _ rfl _ _ 85 rfl 0 33 i1 _ 1 24 Try.underlying85 ki kz0 kz1 kz2 rfl (by decide) (.slice none 0 0) 0 [] rfl (World.ownsRow_nil _ _ _ _) _ 1 1 [.slice (some ⟨w1.heap.size, 0, none⟩) n n] rfl rfl (news_at (show Row _ _ #[.slice (some ⟨w1.heap.size, 0, none⟩) n n] by (repeat' (first | (with_reducible assumption) | (with_reducible refine Row.at _ _ ?_; (simp; done)) | (with_reducible refine Row.alloc ?_ _) | (with_reducible refine Row.drew ?_) | (with_reducible refine Row.drewN ?_ _) | (with_reducible refine Row.other ?_ (by first | (simp; done) | (simp; omega) | omega) _) | (with_reducible refine Row.up ?_ (by with_reducible assumption)) | (with_reducible refine Row.chg ?_ (by with_reducible assumption) (by first | (simp; done) | (simp; omega)))))) rfl) (by simp [Value.oneCell']) (by decide) (by decide) (by decide) (Nat.zero_le _) _ rfl ?_; intro g cap w2 hown hgr hat hg1; have HO := Lib.hid hown; have HA := Lib.hid hat; have HG := Lib.hid hgr; have HU := Lib.hid (grown_up (Up.refl _) hgr (fun k hk => by simp [Value.ownBlock] at hk)); have hu2 := HU.out; have RS2 := HR1.out.up (show Up w1 w2 by (repeat' (first | (with_reducible exact Up.refl _) | (with_reducible assumption) | (with_reducible refine Up.alloc ?_ _) | (with_reducible refine Up.drew ?_) | (with_reducible refine Up.drewN ?_ _) | (with_reducible refine Up.setCell ?_ ?_ _) | (with_reducible refine Up.call ?_ (by with_reducible assumption)) | go_size))); have s2 : w2.cell? ⟨b, 2, none⟩ = some (.slice none 0 0) := RS2.cell 2 rfl; have f2 := RS2.free 2; have RZ2 := RZ1.up (show Up w1 w2 by (repeat' (first | (with_reducible exact Up.refl _) | (with_reducible assumption) | (with_reducible refine Up.alloc ?_ _) | (with_reducible refine Up.drew ?_) | (with_reducible refine Up.drewN ?_ _) | (with_reducible refine Up.setCell ?_ ?_ _) | (with_reducible refine Up.call ?_ (by with_reducible assumption)) | go_size))); have q0 : w2.cell? ⟨w.heap.size, 0, none⟩ = some (.int .i64 0) := RZ2.cell 0 rfl; have y0 := RZ2.free 0; have q1 : w2.cell? ⟨w.heap.size, 1, none⟩ = some (.bool false) := RZ2.cell 1 rfl; have y1 := RZ2.free 1; have q2 : w2.cell? ⟨w.heap.size, 2, none⟩ = some (.int .i64 0) := RZ2.cell 2 rfl; have y2 := RZ2.free 2; have q3 : w2.cell? ⟨w.heap.size, 3, none⟩ = some (.int .i64 0) := RZ2.cell 3 rfl; have y3 := RZ2.free 3; have q4 : w2.cell? ⟨w.heap.size, 4, none⟩ = some (.string ⟨#[]⟩) := RZ2.cell 4 rfl; have y4 := RZ2.free 4; have q5 : w2.cell? ⟨w.heap.size, 5, none⟩ = some (.int .i64 0) := RZ2.cell 5 rfl; have y5 := RZ2.free 5; have q6 : w2.cell? ⟨w.heap.size, 6, none⟩ = some (.int .i64 0) := RZ2.cell 6 rfl; have y6 := RZ2.free 6; have q7 : w2.cell? ⟨w.heap.size, 7, none⟩ = some (.int .i64 0) := RZ2.cell 7 rfl; have y7 := RZ2.free 7; have lz2 := RZ2.lt; clear hown hat hgr))
  all_goals go_wp2
  all_goals
    have hz2 := hu2.size
    (try simp at hz2)
    have hgl : w1.heap.size + 1 + 1 ≤ g := by
      rcases HA.out with h1 | h1
      · simp [Value.ownBlock] at h1
      · simp at h1; omega
    have hcap : 1 ≤ cap ∧ cap ≤ maxLen := by
      rcases owned_form HO.out with ⟨h1, _⟩ | ⟨g', cap', h1, h3, h4, _⟩
      · cases h1
      · simp only [Value.slice.injEq, Option.some.injEq, Addr.mk.injEq] at h1
        obtain ⟨_, _, rfl⟩ := h1
        exact ⟨by omega, h4⟩
    (try simp only [Exit.inBlock, Exit.then])
    refine bodyPost_ret (results_array _ _ w.heap.size 7 false 0 0 ⟨#[]⟩ 0 0 n 0 (by apply cast; (case h => (repeat (first | (with_reducible assumption) | (with_reducible apply Row.at; (simp; done)) | (with_reducible apply Row.alloc) | (with_reducible apply Row.drew) | (with_reducible apply Row.drewN) | (with_reducible apply Row.set) | ((with_reducible apply Row.other); (case hp => first | (simp; done) | (simp; omega) | omega))))); (case e => rfl)) rfl rfl) rfl ?_
    refine ⟨rfl, ⟨g, cap, w1.heap.size, by omega, by omega, ⟨(by apply cast; (case h => (repeat (first | (with_reducible assumption) | (with_reducible apply Row.at; (simp; done)) | (with_reducible apply Row.alloc) | (with_reducible apply Row.drew) | (with_reducible apply Row.drewN) | (with_reducible apply Row.set) | ((with_reducible apply Row.other); (case hp => first | (simp; done) | (simp; omega) | omega))))); (case e => rfl)), ?_, ?_, hcap.1, hcap.2, by omega, by omega, by omega, hn⟩⟩, ?_⟩
    · refine Eq.trans ((Chg.cells (S := [b, w.heap.size]) (W := w2) ?_).1 g 0 hg1 ?_) (HO.out.cellAt 0 (by decide))
      · (repeat' (first | (with_reducible exact Chg.refl _ _) | (with_reducible assumption) | (with_reducible refine Chg.alloc ?_ _) | (with_reducible refine Chg.drew ?_) | (with_reducible refine Chg.drewN ?_ _) | (with_reducible refine Chg.setCell ?_ ?_ _) | (with_reducible refine Chg.upc ?_ (by with_reducible assumption)) | (with_reducible refine Chg.call ?_ (by with_reducible assumption) ?_) | (refine Or.inl ?_; (simp; done)) | (simp; done) | (simp; omega) | omega))
      · simp
        omega
    · rw [← made_cells]
      refine owned_chg (World.ownsRow_lit w1 (madeCells #[.int .i64 0, .bool false, .int .i64 0, .int .i64 0, .string ⟨#[]⟩, .int .i64 0, .int .i64 0, .int .i64 0] (n * 8)) n (Nat.zero_le _) (by unfold maxLen; omega) (size_madeCells _ _)) (S := [b, w.heap.size]) ?_ ?_
      · (repeat' (first | (with_reducible exact Chg.refl _ _) | (with_reducible assumption) | (with_reducible refine Chg.alloc ?_ _) | (with_reducible refine Chg.drew ?_) | (with_reducible refine Chg.drewN ?_ _) | (with_reducible refine Chg.setCell ?_ ?_ _) | (with_reducible refine Chg.upc ?_ (by with_reducible assumption)) | (with_reducible refine Chg.call ?_ (by with_reducible assumption) ?_) | (refine Or.inl ?_; (simp; done)) | (simp; done) | (simp; omega) | omega))
      · intro g' hg'
        simp only [Value.ownBlock, Option.some.injEq] at hg'
        subst hg'
        simp
        omega
    · (repeat' (first | (with_reducible exact Chg.refl _ _) | (with_reducible assumption) | (with_reducible refine Chg.alloc ?_ _) | (with_reducible refine Chg.drew ?_) | (with_reducible refine Chg.drewN ?_ _) | (with_reducible refine Chg.setCell ?_ ?_ _) | (with_reducible refine Chg.upc ?_ (by with_reducible assumption)) | (with_reducible refine Chg.call ?_ (by with_reducible assumption) ?_) | (refine Or.inl ?_; (simp; done)) | (simp; done) | (simp; omega) | omega))

end Go.Proofs.Ytcbelhfbdgkcoaa.St
