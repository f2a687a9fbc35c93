/- Text, Bytes; that the store answers at all. -/
import Derived.Test.YtcbelhfbdgkcoaaStF
import Derived.Laws.IdiomCopy
import Derived.Lib.SliceRun
import Derived.Maps.AppendAt
import Derived.Lib.SlBytesConst
import Derived.Laws.BytesArg
namespace Go.Proofs.Ytcbelhfbdgkcoaa.St
open Go.ChangeShapes Go.WideShapes Go.ChangeAt Go.RowKit
set_option linter.unusedVariables false
set_option linter.unusedSimpArgs false

theorem Empty.up {w w1 : World} {b : Nat} {free : Int} (h : Empty w b free) (hu : Up w w1) : Empty w1 b free := Row.up (show Row w b _ from h) hu

theorem results_text (tmps : Array Value) (w : World) (bo : Nat) (k : Int) (x : Bool) (a N : Int) (s : ByteArray) (r f l er : Int)
    (hR : Row w bo #[.int .i64 k, .bool x, .int .i64 a, .int .i64 N, .string s, .int .i64 r, .int .i64 f, .int .i64 l])
    (e8 : tmps[4]?.getD undef = .pointer (some ⟨bo, 0, none⟩)) (e9 : tmps[5]?.getD undef = .int .i64 er) :
    (results Try.f13 tmps).run Try.prog w = .ok (.tuple #[.agg #[.int .i64 k, .bool x, .int .i64 a, .int .i64 N, .string s, .int .i64 r, .int .i64 f, .int .i64 l], .int .i64 er]) w := by
  have c0 := hR.cell 0 rfl
  have c1 := hR.cell 1 rfl
  have c2 := hR.cell 2 rfl
  have c3 := hR.cell 3 rfl
  have c4 := hR.cell 4 rfl
  have c5 := hR.cell 5 rfl
  have c6 := hR.cell 6 rfl
  have c7 := hR.cell 7 rfl
  simp [results, Try.results13, go_sem, e8, e9, c0, c1, c2, c3, c4, c5, c6, c7]
set_option maxRecDepth 8000 in
set_option maxHeartbeats 4000000 in
theorem text_calls (b g0 : Nat) (w : World) (h : Empty w b 100) (hb0 : g0 < w.heap.size) (ha0 : w.cell? ⟨g0, 0, none⟩ = some (.int .u8 97)) (ha1 : w.cell? ⟨g0, 1, none⟩ = some (.int .u8 98)) (hne : g0 ≠ b) :
    Calls Try.prog 13 #[.pointer (some ⟨b, 0, none⟩), .slice (some ⟨g0, 0, none⟩) 2 2] w fun E w' => E = .returned (.tuple #[.agg #[.int .i64 6, .bool false, .int .i64 0, .int .i64 0, .string ⟨#[]⟩, .int .i64 0, .int .i64 0, .int .i64 2], .int .i64 0]) ∧ (∃ gt cap gi, w.heap.size ≤ gt ∧ w.heap.size ≤ gi ∧ StrIs w' b gt cap gi 98 #[.int .u8 97, .int .u8 98]) ∧ Chg [b] w w' := by
  have hb := Row.lt h
  have HE := Lib.hid (show Empty w b 100 from h)
  have HG0 := Lib.hid ha0
  have HG1 := Lib.hid ha1
  have hcp : ∀ (W : World) (gi : Nat), W.cell? ⟨g0, 0, none⟩ = some (.int .u8 97) → W.cell? ⟨g0, 1, none⟩ = some (.int .u8 98) → W.cell? ⟨gi, 0, none⟩ = some (.int .u8 0) → W.cell? ⟨gi, 1, none⟩ = some (.int .u8 0) → W.frozen? ⟨gi, 0, none⟩ = false → W.frozen? ⟨gi, 1, none⟩ = false →
      (Builtin.copy_ #[38, 38] 3 #[.slice (some ⟨gi, 0, none⟩) 2 2, .slice (some ⟨g0, 0, none⟩) 2 2]).run Try.prog W = .ok (.int .i64 2) ((W.setCell ⟨gi, 0, none⟩ (.int .u8 97)).setCell ⟨gi, 1, none⟩ (.int .u8 98)) := fun W gi e0 e1 e2 e3 e4 e5 => by
    refine run_copy_cells W 38 38 3 5 gi 0 2 2 ⟨g0, 0, none⟩ 2 2 [.int .u8 97, .int .u8 98] Try.underlying38 (by kernel_rfl) rfl ?_ ?_ ?_ ?_
    · intro j v hv
      rw [add_plain, Nat.zero_add]
      match j, hv with
      | 0, hv => cases hv; exact e0
      | 1, hv => cases hv; exact e1
    · intro j hj
      match j, hj with
      | 0, _ => rw [e2]; rfl
      | 1, _ => rw [e3]; rfl
    · intro j hj
      match j, hj with
      | 0, _ => exact e4
      | 1, _ => exact e5
    · intro v hv
      simp only [List.mem_cons, List.not_mem_nil, or_false] at hv
      rcases hv with rfl | rfl <;> rfl
  clear h ha0 ha1
  go_enter Try.func13, Try.ntmps13
  go_wp2_with (go_at_call 39; ((with_reducible refine (string_calls b 100 (by decide) (by decide) _ (Empty.up HE.out (by (repeat' (first | (with_reducible exact Up.refl _) | (with_reducible assumption) | (with_reducible refine Up.alloc ?_ _) | (with_reducible refine Up.drew ?_) | (with_reducible refine Up.drewN ?_ _) | (with_reducible refine Up.setCell ?_ ?_ _) | (with_reducible refine Up.call ?_ (by with_reducible assumption)) | go_size))))).mono ?_); rintro E w1 ⟨rfl, ⟨gt, cap, gi, hgt1, hgi1, hs1⟩, hc1⟩; have HS1 := Lib.hid hs1; have q1 : w1.cell? ⟨b, 1, none⟩ = some (.slice (some ⟨gt, 0, none⟩) 1 cap) := hs1.row.cell 1 rfl; have a1 := hs1.at0; have n1 := hs1.ne1; have n2 := hs1.ne2; have n3 := hs1.ne3; have b0 : w1.cell? ⟨gi, 0, none⟩ = some (.int .u8 0) := hs1.bts.cell 0 rfl; have b1 : w1.cell? ⟨gi, 1, none⟩ = some (.int .u8 0) := hs1.bts.cell 1 rfl; have f0 := hs1.bts.free 0; have f1 := hs1.bts.free 1; have lb1 := hs1.row.lt; have lt1 := cell_lt a1; have li1 := hs1.bts.lt; have z1 := hc1.size; (try simp at z1); simp at hgt1 hgi1; have RZ1 : Row w1 w.heap.size #[.int .i64 0, .bool false, .int .i64 0, .int .i64 0, .string ⟨#[]⟩, .int .i64 0, .int .i64 0, .int .i64 0] := Row.chg (show Row _ w.heap.size #[.int .i64 0, .bool false, .int .i64 0, .int .i64 0, .string ⟨#[]⟩, .int .i64 0, .int .i64 0, .int .i64 0] by (repeat' (first | (with_reducible assumption) | (with_reducible refine Row.at _ _ ?_; (simp; done)) | (with_reducible refine Row.alloc ?_ _) | (with_reducible refine Row.drew ?_) | (with_reducible refine Row.drewN ?_ _) | (with_reducible refine Row.other ?_ (by first | (simp; done) | (simp; omega) | omega) _) | (with_reducible refine Row.up ?_ (by with_reducible assumption)) | (with_reducible refine Row.chg ?_ (by with_reducible assumption) (by first | (simp; done) | (simp; omega)))))) hc1 (by simp; omega); have lz1 := RZ1.lt; have hgw : ¬ gi = w.heap.size := (by omega); have q0 : w1.cell? ⟨w.heap.size, 0, none⟩ = some (.int .i64 0) := RZ1.cell 0 rfl; have y0 := RZ1.free 0; have q1 : w1.cell? ⟨w.heap.size, 1, none⟩ = some (.bool false) := RZ1.cell 1 rfl; have y1 := RZ1.free 1; have q2 : w1.cell? ⟨w.heap.size, 2, none⟩ = some (.int .i64 0) := RZ1.cell 2 rfl; have y2 := RZ1.free 2; have q3 : w1.cell? ⟨w.heap.size, 3, none⟩ = some (.int .i64 0) := RZ1.cell 3 rfl; have y3 := RZ1.free 3; have q4 : w1.cell? ⟨w.heap.size, 4, none⟩ = some (.string ⟨#[]⟩) := RZ1.cell 4 rfl; have y4 := RZ1.free 4; have q5 : w1.cell? ⟨w.heap.size, 5, none⟩ = some (.int .i64 0) := RZ1.cell 5 rfl; have y5 := RZ1.free 5; have q6 : w1.cell? ⟨w.heap.size, 6, none⟩ = some (.int .i64 0) := RZ1.cell 6 rfl; have y6 := RZ1.free 6; have q7 : w1.cell? ⟨w.heap.size, 7, none⟩ = some (.int .i64 0) := RZ1.cell 7 rfl; have y7 := RZ1.free 7; have HC1 : Chg [b] w w1 := (by (repeat' (first | (with_reducible exact Chg.refl _ _) | (with_reducible assumption) | (with_reducible refine Chg.alloc ?_ _) | (with_reducible refine Chg.drew ?_) | (with_reducible refine Chg.drewN ?_ _) | (with_reducible refine Chg.setCell ?_ ?_ _) | (with_reducible refine Chg.upc ?_ (by with_reducible assumption)) | (with_reducible refine Chg.call ?_ (by with_reducible assumption) ?_) | (refine Or.inl ?_; (simp; done)) | (simp; done) | (simp; omega) | omega))); have c0 : w1.cell? ⟨g0, 0, none⟩ = some (.int .u8 97) := (HC1.cells.1 g0 0 hb0 (by simp; omega)).trans HG0.out; have c1 : w1.cell? ⟨g0, 1, none⟩ = some (.int .u8 98) := (HC1.cells.1 g0 1 hb0 (by simp; omega)).trans HG1.out; have l01 : g0 < w1.heap.size := (by omega); clear hs1))
  go_region
  have RZZ : Row w1 gi #[.int .u8 0, .int .u8 0] := HS1.out.bts
  have RBW : Row (World.drew (World.alloc ((w1.setCell ⟨gi, 0, none⟩ (.int .u8 97)).setCell ⟨gi, 1, none⟩ (.int .u8 98)) (.cells #[.int .i64 6, .bool false, .int .i64 0, .int .i64 0, .string ⟨#[]⟩, .int .i64 0, .int .i64 0, .int .i64 2] 27))) gi #[.int .u8 97, .int .u8 98] := (by apply cast; (case h => (repeat (first | (with_reducible assumption) | (with_reducible apply Row.at; (simp; done)) | (with_reducible apply Row.alloc) | (with_reducible apply Row.drew) | (with_reducible apply Row.drewN) | (with_reducible apply Row.set) | ((with_reducible apply Row.other); (case hp => first | (simp; done) | (simp; omega) | omega))))); (case e => rfl))
  have CW : Chg [gi] w1 (World.drew (World.alloc ((w1.setCell ⟨gi, 0, none⟩ (.int .u8 97)).setCell ⟨gi, 1, none⟩ (.int .u8 98)) (.cells #[.int .i64 6, .bool false, .int .i64 0, .int .i64 0, .string ⟨#[]⟩, .int .i64 0, .int .i64 0, .int .i64 2] 27))) := by (repeat' (first | (with_reducible exact Chg.refl _ _) | (with_reducible assumption) | (with_reducible refine Chg.alloc ?_ _) | (with_reducible refine Chg.drew ?_) | (with_reducible refine Chg.drewN ?_ _) | (with_reducible refine Chg.setCell ?_ ?_ _) | (with_reducible refine Chg.upc ?_ (by with_reducible assumption)) | (with_reducible refine Chg.call ?_ (by with_reducible assumption) ?_) | (refine Or.inl ?_; (simp; done)) | (simp; done) | (simp; omega) | omega))
  have BW : Row (World.drew (World.alloc ((w1.setCell ⟨gi, 0, none⟩ (.int .u8 97)).setCell ⟨gi, 1, none⟩ (.int .u8 98)) (.cells #[.int .i64 6, .bool false, .int .i64 0, .int .i64 0, .string ⟨#[]⟩, .int .i64 0, .int .i64 0, .int .i64 2] 27))) w1.heap.size #[.int .i64 6, .bool false, .int .i64 0, .int .i64 0, .string ⟨#[]⟩, .int .i64 0, .int .i64 0, .int .i64 2] := (by apply cast; (case h => (repeat (first | (with_reducible assumption) | (with_reducible apply Row.at; (simp; done)) | (with_reducible apply Row.alloc) | (with_reducible apply Row.drew) | (with_reducible apply Row.drewN) | (with_reducible apply Row.set) | ((with_reducible apply Row.other); (case hp => first | (simp; done) | (simp; omega) | omega))))); (case e => rfl))
  have ZW : Row (World.drew (World.alloc ((w1.setCell ⟨gi, 0, none⟩ (.int .u8 97)).setCell ⟨gi, 1, none⟩ (.int .u8 98)) (.cells #[.int .i64 6, .bool false, .int .i64 0, .int .i64 0, .string ⟨#[]⟩, .int .i64 0, .int .i64 0, .int .i64 2] 27))) w.heap.size #[.int .i64 0, .bool false, .int .i64 0, .int .i64 0, .string ⟨#[]⟩, .int .i64 0, .int .i64 0, .int .i64 0] := (by apply cast; (case h => (repeat (first | (with_reducible assumption) | (with_reducible apply Row.at; (simp; done)) | (with_reducible apply Row.alloc) | (with_reducible apply Row.drew) | (with_reducible apply Row.drewN) | (with_reducible apply Row.set) | ((with_reducible apply Row.other); (case hp => first | (simp; done) | (simp; omega) | omega))))); (case e => rfl))
  have sW : (World.drew (World.alloc ((w1.setCell ⟨gi, 0, none⟩ (.int .u8 97)).setCell ⟨gi, 1, none⟩ (.int .u8 98)) (.cells #[.int .i64 6, .bool false, .int .i64 0, .int .i64 0, .string ⟨#[]⟩, .int .i64 0, .int .i64 0, .int .i64 2] 27))).heap.size = w1.heap.size + 1 := by simp
  clear q0 q1 q2 q3 q4 q5 q6 q7 y0 y1 y2 y3 y4 y5 y6 y7 b0 b1 f0 f1 c0 c1
  generalize (World.drew (World.alloc ((w1.setCell ⟨gi, 0, none⟩ (.int .u8 97)).setCell ⟨gi, 1, none⟩ (.int .u8 98)) (.cells #[.int .i64 6, .bool false, .int .i64 0, .int .i64 0, .string ⟨#[]⟩, .int .i64 0, .int .i64 0, .int .i64 2] 27))) = wR at RBW CW BW ZW sW ⊢
  have q0 : wR.cell? ⟨w.heap.size, 0, none⟩ = some (.int .i64 0) := ZW.cell 0 rfl; have y0 := ZW.free 0; have q1 : wR.cell? ⟨w.heap.size, 1, none⟩ = some (.bool false) := ZW.cell 1 rfl; have y1 := ZW.free 1; have q2 : wR.cell? ⟨w.heap.size, 2, none⟩ = some (.int .i64 0) := ZW.cell 2 rfl; have y2 := ZW.free 2; have q3 : wR.cell? ⟨w.heap.size, 3, none⟩ = some (.int .i64 0) := ZW.cell 3 rfl; have y3 := ZW.free 3; have q4 : wR.cell? ⟨w.heap.size, 4, none⟩ = some (.string ⟨#[]⟩) := ZW.cell 4 rfl; have y4 := ZW.free 4; have q5 : wR.cell? ⟨w.heap.size, 5, none⟩ = some (.int .i64 0) := ZW.cell 5 rfl; have y5 := ZW.free 5; have q6 : wR.cell? ⟨w.heap.size, 6, none⟩ = some (.int .i64 0) := ZW.cell 6 rfl; have y6 := ZW.free 6; have q7 : wR.cell? ⟨w.heap.size, 7, none⟩ = some (.int .i64 0) := ZW.cell 7 rfl; have y7 := ZW.free 7; have x0 : wR.cell? ⟨w1.heap.size, 0, none⟩ = some (.int .i64 6) := BW.cell 0 rfl; have x1 : wR.cell? ⟨w1.heap.size, 1, none⟩ = some (.bool false) := BW.cell 1 rfl; have x2 : wR.cell? ⟨w1.heap.size, 2, none⟩ = some (.int .i64 0) := BW.cell 2 rfl; have x3 : wR.cell? ⟨w1.heap.size, 3, none⟩ = some (.int .i64 0) := BW.cell 3 rfl; have x4 : wR.cell? ⟨w1.heap.size, 4, none⟩ = some (.string ⟨#[]⟩) := BW.cell 4 rfl; have x5 : wR.cell? ⟨w1.heap.size, 5, none⟩ = some (.int .i64 0) := BW.cell 5 rfl; have x6 : wR.cell? ⟨w1.heap.size, 6, none⟩ = some (.int .i64 0) := BW.cell 6 rfl; have x7 : wR.cell? ⟨w1.heap.size, 7, none⟩ = some (.int .i64 2) := BW.cell 7 rfl
  go_wp2
  (try simp only [Exit.inBlock, Exit.then])
  refine bodyPost_ret (results_text _ _ w.heap.size 6 false 0 0 ⟨#[]⟩ 0 0 2 0 (by apply cast; (case h => (repeat (first | (with_reducible assumption) | (with_reducible apply Row.at; (simp; done)) | (with_reducible apply Row.alloc) | (with_reducible apply Row.drew) | (with_reducible apply Row.drewN) | (with_reducible apply Row.set) | ((with_reducible apply Row.other); (case hp => first | (simp; done) | (simp; omega) | omega))))); (case e => rfl)) rfl rfl) rfl ?_
  refine ⟨rfl, ⟨gt, cap, gi, by omega, by omega, ⟨?_, ?_, (by apply cast; (case h => (repeat (first | (with_reducible assumption) | (with_reducible apply Row.at; (simp; done)) | (with_reducible apply Row.alloc) | (with_reducible apply Row.drew) | (with_reducible apply Row.drewN) | (with_reducible apply Row.set) | ((with_reducible apply Row.other); (case hp => first | (simp; done) | (simp; omega) | omega))))); (case e => rfl)), n1, n2, n3⟩⟩, ?_⟩
  · refine HS1.out.row.chg (S := [gi, w.heap.size]) ?_ ?_
    · (repeat' (first | (with_reducible exact Chg.refl _ _) | (with_reducible assumption) | (with_reducible refine Chg.alloc ?_ _) | (with_reducible refine Chg.drew ?_) | (with_reducible refine Chg.drewN ?_ _) | (with_reducible refine Chg.setCell ?_ ?_ _) | (with_reducible refine Chg.upc ?_ (by with_reducible assumption)) | (with_reducible refine Chg.call ?_ (by with_reducible assumption) ?_) | (refine Or.inl ?_; (simp; done)) | (simp; done) | (simp; omega) | omega))
    · simp
      omega
  · refine Eq.trans ((Chg.cells (S := [gi, w.heap.size]) (W := w1) ?_).1 gt 0 lt1 ?_) a1
    · (repeat' (first | (with_reducible exact Chg.refl _ _) | (with_reducible assumption) | (with_reducible refine Chg.alloc ?_ _) | (with_reducible refine Chg.drew ?_) | (with_reducible refine Chg.drewN ?_ _) | (with_reducible refine Chg.setCell ?_ ?_ _) | (with_reducible refine Chg.upc ?_ (by with_reducible assumption)) | (with_reducible refine Chg.call ?_ (by with_reducible assumption) ?_) | (refine Or.inl ?_; (simp; done)) | (simp; done) | (simp; omega) | omega))
    · simp
      omega
  · (repeat' (first | (with_reducible exact Chg.refl _ _) | (with_reducible assumption) | (with_reducible refine Chg.alloc ?_ _) | (with_reducible refine Chg.drew ?_) | (with_reducible refine Chg.drewN ?_ _) | (with_reducible refine Chg.setCell ?_ ?_ _) | (with_reducible refine Chg.upc ?_ (by with_reducible assumption)) | (with_reducible refine Chg.call ?_ (by with_reducible assumption) ?_) | (refine Or.inl ?_; (simp; done)) | (simp; done) | (simp; omega) | omega))

set_option maxRecDepth 8000 in
theorem bclone_calls (g : Nat) (w : World) (h : Row w g #[.int .u8 97, .int .u8 98]) :
    Calls Try.prog 41 #[.slice (some ⟨g, 0, none⟩) 2 2] w fun E w' => ∃ g' cap', E = .returned (.slice (some ⟨g', 0, none⟩) 2 cap') ∧ w'.cell? ⟨g', 0, none⟩ = some (.int .u8 97) ∧ w'.cell? ⟨g', 1, none⟩ = some (.int .u8 98) ∧ Up w w' := by
  obtain ⟨i0, hi, hz0, hz1, hz2⟩ := info_parts infoU8
  have hg := h.lt
  have HS := Lib.hid h
  clear h
  have heq := fun w => Lib.run_eql_slice_nil (P := Try.prog) w 38 5 (some ⟨g, 0, none⟩) 2 2 0 0 Try.underlying38
  go_enter Try.func41, Try.ntmps41
  go_wp2_with (at_builtin; refine wpList_append_own_at _ rfl _ _ 38 rfl 0 5 i0 _ 1 1 Try.underlying38 hi hz0 hz1 hz2 rfl (by decide) (.slice (some ⟨w.heap.size, 0, none⟩) 0 0) 0 [] rfl (World.ownsRow_made w #[] 0 (Nat.zero_le _) (by decide) rfl) ⟨g, 0, none⟩ 2 2 [.int .u8 97, .int .u8 98] rfl rfl (fun j u hu => news_at (Row.up HS.out (show Up w _ by (repeat' (first | (with_reducible exact Up.refl _) | (with_reducible assumption) | (with_reducible refine Up.alloc ?_ _) | (with_reducible refine Up.drew ?_) | (with_reducible refine Up.drewN ?_ _) | (with_reducible refine Up.setCell ?_ ?_ _) | (with_reducible refine Up.call ?_ (by with_reducible assumption)) | go_size)))) rfl j u hu) (by simp [Value.oneCell']) (by decide) (by decide) (Nat.zero_le _) ?_; intro v1 w1 hown hgr hnil hat; have HO := Lib.hid hown; have HG := Lib.hid hgr; have HA := Lib.hid hat; clear hown hgr hnil hat)
  go_ret
  have h1 := HO.out
  rw [Nat.zero_add, List.nil_append] at h1
  rcases owned_form h1 with ⟨rfl, _⟩ | ⟨g', cap', rfl, _⟩
  · rcases HA.out with h2 | h2
    · simp [Value.ownBlock] at h2
    · simp [Value.ownBlock] at h2
  · exact ⟨g', cap', rfl, h1.cellAt 0 (by decide), h1.cellAt 1 (by decide), grown_up (Up.alloc (Up.refl w) _) HG.out (fun k hk => by simp only [Value.ownBlock, Option.some.injEq] at hk; omega)⟩

set_option maxRecDepth 8000 in
set_option maxHeartbeats 1000000 in
theorem bytes_calls (b gt cap gi : Nat) (free : Int) (w : World) (h : StrIs w b gt cap gi free #[.int .u8 97, .int .u8 98]) :
    Calls Try.prog 14 #[.pointer (some ⟨b, 0, none⟩), .agg #[.int .i64 6, .bool false, .int .i64 0, .int .i64 0, .string ⟨#[]⟩, .int .i64 0, .int .i64 0, .int .i64 2]] w fun E w' => ∃ g' cap', E = .returned (.tuple #[.slice (some ⟨g', 0, none⟩) 2 cap', .int .i64 0]) ∧ w'.cell? ⟨g', 0, none⟩ = some (.int .u8 97) ∧ w'.cell? ⟨g', 1, none⟩ = some (.int .u8 98) ∧ Up w w' := by
  have HA := Lib.hid h
  clear h
  go_enter Try.func14, Try.ntmps14
  go_wp2_with (first
    | (go_at_call 35; ((with_reducible refine (is_str b gt cap gi free _ _ (HA.out.up (by (repeat' (first | (with_reducible exact Up.refl _) | (with_reducible assumption) | (with_reducible refine Up.alloc ?_ _) | (with_reducible refine Up.drew ?_) | (with_reducible refine Up.drewN ?_ _) | (with_reducible refine Up.setCell ?_ ?_ _) | (with_reducible refine Up.call ?_ (by with_reducible assumption)) | go_size))))).mono ?_); rintro E w1 ⟨rfl, hu1⟩; have k_w1 := hu1.cells.1; have f_w1 := hu1.cells.2; have z_w1 := hu1.size; (try simp at z_w1); have l0_w1 : w.heap.size < w1.heap.size := (by omega)))
    | (go_at_call 42; ((with_reducible refine (text_str b gt cap gi free _ _ (HA.out.up (by (repeat' (first | (with_reducible exact Up.refl _) | (with_reducible assumption) | (with_reducible refine Up.alloc ?_ _) | (with_reducible refine Up.drew ?_) | (with_reducible refine Up.drewN ?_ _) | (with_reducible refine Up.setCell ?_ ?_ _) | (with_reducible refine Up.call ?_ (by with_reducible assumption)) | go_size))))).mono ?_); rintro E w2 ⟨rfl, hu2⟩))
    | (go_at_call 41; ((with_reducible refine (bclone_calls gi _ (HA.out.up (by (repeat' (first | (with_reducible exact Up.refl _) | (with_reducible assumption) | (with_reducible refine Up.alloc ?_ _) | (with_reducible refine Up.drew ?_) | (with_reducible refine Up.drewN ?_ _) | (with_reducible refine Up.setCell ?_ ?_ _) | (with_reducible refine Up.call ?_ (by with_reducible assumption)) | go_size)))).bts).mono ?_); rintro E w3 ⟨g', cap', rfl, p0, p1, hu3⟩)))
  go_returns
  exact ⟨g', cap', rfl, p0, p1, by (repeat' (first | (with_reducible exact Up.refl _) | (with_reducible assumption) | (with_reducible refine Up.alloc ?_ _) | (with_reducible refine Up.drew ?_) | (with_reducible refine Up.drewN ?_ _) | (with_reducible refine Up.setCell ?_ ?_ _) | (with_reducible refine Up.call ?_ (by with_reducible assumption)) | go_size))⟩

set_option maxRecDepth 8000 in
set_option maxHeartbeats 1000000 in
theorem answers_calls (w : World) : Calls Try.prog 8 #[] w fun E w' => E = .returned (.bool true) ∧ Up w w' := by
  have kc := fun (w : World) (C : Array Value) (n c : Nat) => Lib.run_convert_bytes_const (P := Try.prog) w 38 5 C n c Try.underlying38 Try.underlying5
  have kd : ∀ (W : World) (g cap : Nat), W.cell? ⟨g, 0, none⟩ = some (.int .u8 97) → W.cell? ⟨g, 1, none⟩ = some (.int .u8 98) → (convert 38 9 (.slice (some ⟨g, 0, none⟩) 2 cap)).run Try.prog W = .ok (.string ⟨#[97, 98]⟩) W := fun W g cap e0 e1 =>
    (run_convert_bytes_arg W 38 5 Try.underlying38 Try.underlying5 g 0 2 cap [97, 98] rfl (fun i hi => by
      match i, hi with
      | 0, _ => exact e0
      | 1, _ => exact e1) 9 Try.underlying9).trans rfl
  go_enter Try.func8, Try.ntmps8
  go_wp2_with (first
    | (go_at_call 6; ((with_reducible refine (new_calls 100 (by decide) (by decide) _).mono ?_); rintro E w1 ⟨rfl, hu1, he⟩; have HE := Lib.hid he; have z1 := Row.lt he; clear he))
    | (go_at_call 13; ((with_reducible refine (text_calls w.heap.size w1.heap.size _ (HE.out.up (by (repeat' (first | (with_reducible exact Up.refl _) | (with_reducible assumption) | (with_reducible refine Up.alloc ?_ _) | (with_reducible refine Up.drew ?_) | (with_reducible refine Up.drewN ?_ _) | (with_reducible refine Up.setCell ?_ ?_ _) | (with_reducible refine Up.call ?_ (by with_reducible assumption)) | go_size)))) (by simp) (World.cell?_alloc_mark w1 _ _ _ 0) (World.cell?_alloc_mark w1 _ _ _ 1) (by omega)).mono ?_); rintro E w2 ⟨rfl, ⟨gt, cap, gi, hgt2, hgi2, hs2⟩, hc2⟩; have HS2 := Lib.hid hs2; have z2 := hc2.size; (try simp at z2); have HU2 := Lib.hid (((Chg.of_up (S := []) (show Up w _ by (repeat' (first | (with_reducible exact Up.refl _) | (with_reducible assumption) | (with_reducible refine Up.alloc ?_ _) | (with_reducible refine Up.drew ?_) | (with_reducible refine Up.drewN ?_ _) | (with_reducible refine Up.setCell ?_ ?_ _) | (with_reducible refine Up.call ?_ (by with_reducible assumption)) | go_size)))).call hc2 (fun x hx => Or.inr (by simp at hx; omega))).up); clear hs2 hc2))
    | (go_at_call 14; ((with_reducible refine (bytes_calls w.heap.size gt cap gi 98 _ (HS2.out.up (by (repeat' (first | (with_reducible exact Up.refl _) | (with_reducible assumption) | (with_reducible refine Up.alloc ?_ _) | (with_reducible refine Up.drew ?_) | (with_reducible refine Up.drewN ?_ _) | (with_reducible refine Up.setCell ?_ ?_ _) | (with_reducible refine Up.call ?_ (by with_reducible assumption)) | go_size))))).mono ?_); rintro E w3 ⟨g', cap', rfl, p0, p1, hu3⟩; have fr : w3.cell? ⟨w.heap.size, 0, none⟩ = some (.int .i64 98) := (HS2.out.row.up (by (repeat' (first | (with_reducible exact Up.refl _) | (with_reducible assumption) | (with_reducible refine Up.alloc ?_ _) | (with_reducible refine Up.drew ?_) | (with_reducible refine Up.drewN ?_ _) | (with_reducible refine Up.setCell ?_ ?_ _) | (with_reducible refine Up.call ?_ (by with_reducible assumption)) | go_size)))).cell 0 rfl))
    | (go_at_call 30; ((with_reducible refine (free_calls w.heap.size 98 _ fr).mono ?_); rintro E w4 ⟨rfl, rfl⟩)))
  go_ret
  exact ⟨rfl, by have h3 := HU2.out; (repeat' (first | (with_reducible exact Up.refl _) | (with_reducible assumption) | (with_reducible refine Up.alloc ?_ _) | (with_reducible refine Up.drew ?_) | (with_reducible refine Up.drewN ?_ _) | (with_reducible refine Up.setCell ?_ ?_ _) | (with_reducible refine Up.call ?_ (by with_reducible assumption)) | go_size))⟩

end Go.Proofs.Ytcbelhfbdgkcoaa.St
