/- bytes.Buffer: WriteByte, Write and WriteString, with what they leave of marked rows. No condition. -/
import Derived.Test.YtpellcdggaeppaaGreatDoorShelf
import Derived.Test.YtpellcdggaeppaaGreatDoorKept
import Derived.WalkKit
import Derived.Handy
import Derived.OpenShut
import Derived.Laws.IdiomCopy
namespace Go.Proofs.YtpellcdggaeppaaGreatDoor
open Go.RowKit Go.Shelf
set_option linter.unusedVariables false
set_option linter.unusedSimpArgs false

abbrev IsBuf (B b : Nat) (bs : List Value) (w : World) : Prop := Lib.IsBuffer 67 5 B b bs w

set_option maxRecDepth 8000 in
theorem writeByte_calls (B b : Nat) (bs : List Value) (c : Int) (w : World) (h : IsBuf B b bs w) (hBw : B ≤ w.heap.size) (h1 : ∀ v ∈ bs, v.oneCell' = true) (hlim : bs.length + 1 ≤ 140737488355328) :
    Calls Tryz.prog 118 #[.pointer (some ⟨b, 0, none⟩), .int .u8 c] w fun e w' => e = .returned .nilIface ∧ IsBuf B b (bs ++ [.int .u8 c]) w' ∧ Below B w w' ∧ Kept 5 b w w' := by
  obtain ⟨hB, v0, lr, hbk, -, -⟩ := id h
  have c2 : w.cell? ⟨b, 2, none⟩ = some (.int .i8 lr) := by rw [Lib.cell_of_heap hbk]; rfl
  have f2 : w.frozen? ⟨b, 2, none⟩ = false := Lib.frozen_of_heap hbk 2
  have h' := h.setLast 0
  have hbel0 : Below B w (w.setCell ⟨b, 2, none⟩ (.int .i8 0)) := (Below.refl B w).setCell (p := ⟨b, 2, none⟩) hB _
  have hk0 : Kept 5 b w (w.setCell ⟨b, 2, none⟩ (.int .i8 0)) := Kept.setB _ _
  have hBw' : B ≤ (w.setCell ⟨b, 2, none⟩ (.int .i8 0)).heap.size := by simpa [World.setCell] using hBw
  clear hbk v0
  have fin : ∀ W1 xs, xs.length = 1 → IsBuf B b (bs ++ xs) W1 → ∃ g cap cur, W1.cell? ⟨b, 0, none⟩ = some (.slice (some ⟨g, 0, none⟩) (bs.length + 1) cap) ∧ bs.length < cap ∧ cap ≤ 9223372036854775807 ∧ bs.length + 1 ≤ cap ∧ W1.cell? ⟨g, bs.length, none⟩ = some cur ∧ W1.frozen? ⟨g, bs.length, none⟩ = false ∧
      IsBuf B b (bs ++ [.int .u8 c]) (W1.setCell ⟨g, bs.length, none⟩ (.int .u8 c)) ∧ Below B W1 (W1.setCell ⟨g, bs.length, none⟩ (.int .u8 c)) ∧ Kept 5 b W1 (W1.setCell ⟨g, bs.length, none⟩ (.int .u8 c)) := by
    intro W1 xs hxl hI
    obtain ⟨-, lr2, hc⟩ := hI.cases
    rcases hc with ⟨hnil, -⟩ | ⟨g, cap, cur, hbk2, hBg, hg, hnc, hcm, hcs, htk, hgb⟩
    · exact absurd (congrArg List.length hnil) (by simp [hxl])
    · rw [List.length_append, hxl] at hbk2 hnc htk
      have hlt : bs.length < cur.size := by omega
      obtain ⟨r1, r2⟩ := Lib.poke_end (v := .int .u8 c) hB hbk2 hBg hg hcm hcs hgb hnc
      have e1 : cur.toList.take bs.length = bs := by
        have h3 := congrArg (List.take bs.length) htk
        rwa [List.take_take, Nat.min_eq_left (Nat.le_succ _), List.take_left' rfl] at h3
      rw [e1] at r1
      refine ⟨g, cap, cur[bs.length], by rw [Lib.cell_of_heap hbk2]; rfl, by omega, hcm, hnc, by rw [Lib.cell_of_heap hg, Array.getElem?_eq_getElem hlt], Lib.frozen_of_heap hg _, r1, r2, Kept.setG hg _ _⟩
  have hT := fun W hW => Tryz.Buffer_tryGrow_own B b 1 bs W hW
  have hG := fun W hW hn hs => Tryz.Buffer_grow_own B b 1 bs W hW hn hs h1 hlim
  go_enter Tryz.func118, Tryz.ntmps118
  go_wp2_with (go_at_call 85; refine (hT _ h').mono ?_)
  rintro e W1 (⟨rfl, xs, hxl, hI, hbel, -, hg⟩ | ⟨rfl, rfl, hnr⟩)
  · have hbelW := hbel0.trans hbel
    have hkW := hk0.trans (Kept.grown hg)
    obtain ⟨g, cap, cur, d0, k1, k2, k3, dg, fg, r1, r2, r3⟩ := fin W1 xs hxl hI
    clear hT hG h' hbel hbel0 hBw' c2 f2 fin
    go_wp2
    go_ret
    exact ⟨rfl, r1, hbelW.trans r2, hkW.trans r3⟩
  · go_wp2_with (go_at_call 86; refine (hG _ h' hnr hBw').mono ?_)
    rintro e W1 ⟨rfl, xs, hxl, hI, hbel, -, hg⟩
    have hbelW := hbel0.trans hbel
    have hkW := hk0.trans (Kept.grown hg)
    obtain ⟨g, cap, cur, d0, k1, k2, k3, dg, fg, r1, r2, r3⟩ := fin W1 xs hxl hI
    clear hT hG h' hbel hbel0 hBw' c2 f2 hnr fin
    go_wp2
    go_ret
    exact ⟨rfl, r1, hbelW.trans r2, hkW.trans r3⟩

set_option maxRecDepth 8000 in
theorem write_calls (B b : Nat) (bs : List Value) (cs : List Value) (a : Addr) (n c : Nat) (w : World) (h : IsBuf B b bs w) (hBw : B ≤ w.heap.size) (h1 : ∀ v ∈ bs, v.oneCell' = true) (hn : cs.length = n) (hn0 : 0 < n) (hab : a.block ≠ b) (hsrc : ∀ j v, cs[j]? = some v → w.cell? (a.add j) = some v) (h1c : ∀ v ∈ cs, v.oneCell' = true) (hlim : bs.length + n ≤ 140737488355328) :
    Calls Tryz.prog 84 #[.pointer (some ⟨b, 0, none⟩), .slice (some a) n c] w fun e w' => e = .returned (.tuple #[.int .i64 (n : Nat), .nilIface]) ∧ IsBuf B b (bs ++ cs) w' ∧ Below B w w' ∧ Kept 5 b w w' := by
  have hinfo : (Tryz.prog.info? 5).map (·.size) = some 1 := by kernel_rfl
  have hnl : (cs).length = n := hn
  obtain ⟨hB, v0, lr, hbk, -, -⟩ := id h
  have c2 : w.cell? ⟨b, 2, none⟩ = some (.int .i8 lr) := by rw [Lib.cell_of_heap hbk]; rfl
  have f2 : w.frozen? ⟨b, 2, none⟩ = false := Lib.frozen_of_heap hbk 2
  have h' := h.setLast 0
  have hbel0 : Below B w (w.setCell ⟨b, 2, none⟩ (.int .i8 0)) := (Below.refl B w).setCell (p := ⟨b, 2, none⟩) hB _
  have hk0 : Kept 5 b w (w.setCell ⟨b, 2, none⟩ (.int .i8 0)) := Kept.setB _ _
  have hg0 : w.grownBy (w.setCell ⟨b, 2, none⟩ (.int .i8 0)) (some b) := Lib.grownBy_setCell w b 2 _
  have hBw' : B ≤ (w.setCell ⟨b, 2, none⟩ (.int .i8 0)).heap.size := by simpa [World.setCell] using hBw
  clear hbk v0
  have fin : ∀ W1 xs, xs.length = n → IsBuf B b (bs ++ xs) W1 → w.grownBy W1 (some b) → ∃ g cap W2, W1.cell? ⟨b, 0, none⟩ = some (.slice (some ⟨g, 0, none⟩) (bs.length + n) cap) ∧ ¬ cap = bs.length ∧ cap ≤ 9223372036854775807 ∧ bs.length + n ≤ cap ∧
      (Builtin.copy_ #[27, 27] 3 #[.slice (some ⟨g, bs.length, none⟩) n (cap - bs.length), .slice (some a) n c]).run Tryz.prog W1 = .ok (goInt n) W2 ∧ IsBuf B b (bs ++ cs) W2 ∧ Below B W1 W2 ∧ Kept 5 b W1 W2 := by
    intro W1 xs hxl hI hgW
    obtain ⟨-, lr2, hc⟩ := hI.cases
    rcases hc with ⟨hnil, -⟩ | ⟨g, cap, cur, hbk2, hBg, hg, hnc, hcm, hcs, htk, hgb⟩
    · exact absurd (congrArg List.length hnil) (by rw [List.length_append, hxl, List.length_nil]; omega)
    · rw [List.length_append, hxl] at hbk2 hnc htk
      have hsrc1 : ∀ j v, cs[j]? = some v → W1.cell? (a.add j) = some v := fun j v hj => hgW.cell (hsrc j v hj) (by rw [Lib.block_add]; exact fun e => hab (Option.some.inj e))
      have hcp := run_copy_row (P := Tryz.prog) W1 27 27 3 5 g bs.length n (cap - bs.length) a n c cur 5 cs Tryz.underlying27 hinfo hg (by rw [hn]; exact (Nat.min_self n).symm) hsrc1 (by rw [hn]; omega) h1c
      rw [hn] at hcp
      obtain ⟨r1, r2⟩ := Lib.written_end (news := cs) (l := bs.length) hB (by rw [hnl]; exact hbk2) hBg hg hcm hcs hgb (by rw [hnl]; exact hnc)
      have e1 : cur.toList.take bs.length = bs := by
        have h3 := congrArg (List.take bs.length) htk
        rwa [List.take_take, Nat.min_eq_left (Nat.le_add_right _ _), List.take_left' rfl] at h3
      rw [e1, hnl] at r1 r2
      rw [e1] at hcp
      exact ⟨g, cap, _, by rw [Lib.cell_of_heap hbk2]; rfl, by omega, hcm, hnc, hcp, r1, r2, Kept.setRowG hg _⟩
  have hT := fun W hW => Tryz.Buffer_tryGrow_own B b (n) bs W hW
  have hG := fun W hW hn hs => Tryz.Buffer_grow_own B b (n) bs W hW hn hs h1 hlim
  go_enter Tryz.func84, Tryz.ntmps84
  go_wp2_with (go_at_call 85; refine (hT _ h').mono ?_)
  rintro e W1 (⟨rfl, xs, hxl, hI, hbel, -, hg⟩ | ⟨rfl, rfl, hnr⟩)
  · have hbelW := hbel0.trans hbel
    have hkW := hk0.trans (Kept.grown hg)
    obtain ⟨g, cap, W2, d0, k1, k2, k3, hcp, r1, r2, r3⟩ := fin W1 xs hxl hI (Lib.grownBy_trans hg0 hg)
    clear hT hG h' hbel hbel0 hBw' c2 f2 fin
    go_wp2
    go_ret2
    exact ⟨rfl, r1, hbelW.trans r2, hkW.trans r3⟩
  · go_wp2_with (go_at_call 86; refine (hG _ h' hnr hBw').mono ?_)
    rintro e W1 ⟨rfl, xs, hxl, hI, hbel, -, hg⟩
    have hbelW := hbel0.trans hbel
    have hkW := hk0.trans (Kept.grown hg)
    obtain ⟨g, cap, W2, d0, k1, k2, k3, hcp, r1, r2, r3⟩ := fin W1 xs hxl hI (Lib.grownBy_trans hg0 hg)
    clear hT hG h' hbel hbel0 hBw' c2 f2 hnr fin
    go_wp2
    go_ret2
    exact ⟨rfl, r1, hbelW.trans r2, hkW.trans r3⟩

set_option maxRecDepth 8000 in
theorem writeString_calls (B b : Nat) (bs : List Value) (s : ByteArray) (w : World) (h : IsBuf B b bs w) (hBw : B ≤ w.heap.size) (h1 : ∀ v ∈ bs, v.oneCell' = true) (hn0 : 0 < s.size) (hlim : bs.length + s.size ≤ 140737488355328) :
    Calls Tryz.prog 48 #[.pointer (some ⟨b, 0, none⟩), .string s] w fun e w' => e = .returned (.tuple #[.int .i64 (s.size : Nat), .nilIface]) ∧ IsBuf B b (bs ++ Lib.byteCells s.data.toList) w' ∧ Below B w w' ∧ Kept 5 b w w' := by
  have hinfo : (Tryz.prog.info? 5).map (·.size) = some 1 := by kernel_rfl
  have hnl : (Lib.byteCells s.data.toList).length = s.size := by rw [Lib.byteCells_length, ← Lib.size_eq]
  obtain ⟨hB, v0, lr, hbk, -, -⟩ := id h
  have c2 : w.cell? ⟨b, 2, none⟩ = some (.int .i8 lr) := by rw [Lib.cell_of_heap hbk]; rfl
  have f2 : w.frozen? ⟨b, 2, none⟩ = false := Lib.frozen_of_heap hbk 2
  have h' := h.setLast 0
  have hbel0 : Below B w (w.setCell ⟨b, 2, none⟩ (.int .i8 0)) := (Below.refl B w).setCell (p := ⟨b, 2, none⟩) hB _
  have hk0 : Kept 5 b w (w.setCell ⟨b, 2, none⟩ (.int .i8 0)) := Kept.setB _ _
  have hg0 : w.grownBy (w.setCell ⟨b, 2, none⟩ (.int .i8 0)) (some b) := Lib.grownBy_setCell w b 2 _
  have hBw' : B ≤ (w.setCell ⟨b, 2, none⟩ (.int .i8 0)).heap.size := by simpa [World.setCell] using hBw
  clear hbk v0
  have fin : ∀ W1 xs, xs.length = s.size → IsBuf B b (bs ++ xs) W1 → w.grownBy W1 (some b) → ∃ g cap W2, W1.cell? ⟨b, 0, none⟩ = some (.slice (some ⟨g, 0, none⟩) (bs.length + s.size) cap) ∧ ¬ cap = bs.length ∧ cap ≤ 9223372036854775807 ∧ bs.length + s.size ≤ cap ∧
      (Builtin.copy_ #[27, 9] 3 #[.slice (some ⟨g, bs.length, none⟩) s.size (cap - bs.length), .string s]).run Tryz.prog W1 = .ok (goInt s.size) W2 ∧ IsBuf B b (bs ++ Lib.byteCells s.data.toList) W2 ∧ Below B W1 W2 ∧ Kept 5 b W1 W2 := by
    intro W1 xs hxl hI hgW
    obtain ⟨-, lr2, hc⟩ := hI.cases
    rcases hc with ⟨hnil, -⟩ | ⟨g, cap, cur, hbk2, hBg, hg, hnc, hcm, hcs, htk, hgb⟩
    · exact absurd (congrArg List.length hnil) (by rw [List.length_append, hxl, List.length_nil]; omega)
    · rw [List.length_append, hxl] at hbk2 hnc htk
      have hcp := Lib.run_copy_row_string (P := Tryz.prog) W1 27 9 3 5 g bs.length s.size (cap - bs.length) s cur 5 Tryz.underlying27 hinfo hg (Nat.le_refl _) (by omega)
      obtain ⟨r1, r2⟩ := Lib.written_end (news := Lib.byteCells s.data.toList) (l := bs.length) hB (by rw [hnl]; exact hbk2) hBg hg hcm hcs hgb (by rw [hnl]; exact hnc)
      have e1 : cur.toList.take bs.length = bs := by
        have h3 := congrArg (List.take bs.length) htk
        rwa [List.take_take, Nat.min_eq_left (Nat.le_add_right _ _), List.take_left' rfl] at h3
      rw [e1, hnl] at r1 r2
      rw [e1] at hcp
      exact ⟨g, cap, _, by rw [Lib.cell_of_heap hbk2]; rfl, by omega, hcm, hnc, hcp, r1, r2, Kept.setRowG hg _⟩
  have hT := fun W hW => Tryz.Buffer_tryGrow_own B b (s.size) bs W hW
  have hG := fun W hW hn hs => Tryz.Buffer_grow_own B b (s.size) bs W hW hn hs h1 hlim
  go_enter Tryz.func48, Tryz.ntmps48
  go_wp2_with (go_at_call 85; refine (hT _ h').mono ?_)
  rintro e W1 (⟨rfl, xs, hxl, hI, hbel, -, hg⟩ | ⟨rfl, rfl, hnr⟩)
  · have hbelW := hbel0.trans hbel
    have hkW := hk0.trans (Kept.grown hg)
    obtain ⟨g, cap, W2, d0, k1, k2, k3, hcp, r1, r2, r3⟩ := fin W1 xs hxl hI (Lib.grownBy_trans hg0 hg)
    clear hT hG h' hbel hbel0 hBw' c2 f2 fin
    go_wp2
    go_ret2
    exact ⟨rfl, r1, hbelW.trans r2, hkW.trans r3⟩
  · go_wp2_with (go_at_call 86; refine (hG _ h' hnr hBw').mono ?_)
    rintro e W1 ⟨rfl, xs, hxl, hI, hbel, -, hg⟩
    have hbelW := hbel0.trans hbel
    have hkW := hk0.trans (Kept.grown hg)
    obtain ⟨g, cap, W2, d0, k1, k2, k3, hcp, r1, r2, r3⟩ := fin W1 xs hxl hI (Lib.grownBy_trans hg0 hg)
    clear hT hG h' hbel hbel0 hBw' c2 f2 hnr fin
    go_wp2
    go_ret2
    exact ⟨rfl, r1, hbelW.trans r2, hkW.trans r3⟩

end Go.Proofs.YtpellcdggaeppaaGreatDoor
