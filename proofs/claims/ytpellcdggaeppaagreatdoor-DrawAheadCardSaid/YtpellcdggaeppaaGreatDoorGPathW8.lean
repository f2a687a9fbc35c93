/- Which segments are sound. -/
import Derived.Test.YtpellcdggaeppaaGreatDoorGP
import Derived.Test.YtpellcdggaeppaaGreatDoorPathM2
import Derived.Test.YtpellcdggaeppaaGreatDoorSegArg
namespace Go.Proofs.YtpellcdggaeppaaGreatDoor.Path
open Go.ChangeShapes Go.WideShapes Go.ChangeAt Go.RowKit
open Go.Proofs.YtpellcdggaeppaaGreatDoor.FixM (fits)
open Go.Proofs.YtpellcdggaeppaaGreatDoor.PathM
set_option linter.unusedVariables false
set_option linter.unusedSimpArgs false

/-- segments that lie in a row -/
def SegAt (w : World) (b o : Nat) (l : List Seg) : Prop := ∀ (i : Nat) (s : Seg) (j : Nat) (u : Value), l[i]? = some s → s.cells[j]? = some u → w.cell? ⟨b, o + i * 7 + j, none⟩ = some u
/-- a slice of segments -/
def SegV (w : World) (v : Value) (l : List Seg) : Prop :=
  (∃ a cap, v = .slice a 0 cap ∧ l = []) ∨ ∃ b o cap, v = .slice (some ⟨b, o, none⟩) l.length cap ∧ 0 < l.length ∧ b < w.heap.size ∧ SegAt w b o l ∧ l.length ≤ 9223372036854775807
theorem SegAt.up {w w1 : World} {b o : Nat} {l : List Seg} (h : SegAt w b o l) (hb : b < w.heap.size) (hu : Up w w1) : SegAt w1 b o l := fun i s j u hs hj => (hu.cells.1 b _ hb).trans (h i s j u hs hj)
theorem SegAt.chg {S : List Nat} {w w1 : World} {b o : Nat} {l : List Seg} (h : SegAt w b o l) (hb : b < w.heap.size) (hu : Chg S w w1) (hn : b ∉ S) : SegAt w1 b o l := fun i s j u hs hj => (hu.cells.1 b _ hb hn).trans (h i s j u hs hj)
theorem SegV.up {w w1 : World} {v : Value} {l : List Seg} (h : SegV w v l) (hu : Up w w1) : SegV w1 v l := by
  rcases h with h | ⟨b, o, cap, h1, h2, h3, h4, h5⟩
  · exact Or.inl h
  · exact Or.inr ⟨b, o, cap, h1, h2, Nat.lt_of_lt_of_le h3 hu.size, h4.up h3 hu, h5⟩
theorem Segs.v {w : World} {v : Value} {l : List Seg} (h : Segs w v l) : SegV w v l := by
  rcases h.form with ⟨rfl, rfl⟩ | ⟨g, cap, rfl, h1, h2, h3⟩
  · exact Or.inl ⟨none, 0, rfl, rfl⟩
  · by_cases h0 : l.length = 0
    · have := List.eq_nil_of_length_eq_zero h0
      subst this
      exact Or.inl ⟨_, cap, rfl, rfl⟩
    · refine Or.inr ⟨g, 0, cap, rfl, by omega, h3, fun i s j u hs hj => ?_, by unfold maxLen at h2; omega⟩
      rw [Nat.zero_add]
      refine h.at i s hs j ?_ u hj
      have := (List.getElem?_eq_some_iff.1 hj).1
      simpa [PathM.Seg.cells] using this
theorem _root_.Go.Proofs.YtpellcdggaeppaaGreatDoor.SegIs.v {w : World} {a : Option Addr} {len cap : Nat} {l : List Seg} (h : SegIs w a len cap l) : SegV w (.slice a len cap) l := by
  obtain ⟨h1, h2, h3, h4, h5, h6⟩ := h
  subst h3
  by_cases h0 : l.length = 0
  · have := List.eq_nil_of_length_eq_zero h0
    subst this
    exact Or.inl ⟨a, cap, rfl, rfl⟩
  · obtain ⟨b, o, rfl, hb, hc⟩ := h6 (by omega)
    exact Or.inr ⟨b, o, cap, rfl, by omega, hb, hc, by omega⟩
theorem SegAt.seven {w : World} {b o : Nat} {l : List Seg} (h : SegAt w b o l) (i : Nat) (k x0 y0 x1 y1 x2 y2 : Int) (hi : l[i]? = some ⟨k, (x0, y0), (x1, y1), (x2, y2)⟩) :
    w.cell? ⟨b, o + i * 7, none⟩ = some (.int .i64 k) ∧ w.cell? ⟨b, o + i * 7 + 1, none⟩ = some (.int .i64 x0) ∧ w.cell? ⟨b, o + i * 7 + 2, none⟩ = some (.int .i64 y0) ∧ w.cell? ⟨b, o + i * 7 + 3, none⟩ = some (.int .i64 x1) ∧
    w.cell? ⟨b, o + i * 7 + 4, none⟩ = some (.int .i64 y1) ∧ w.cell? ⟨b, o + i * 7 + 5, none⟩ = some (.int .i64 x2) ∧ w.cell? ⟨b, o + i * 7 + 6, none⟩ = some (.int .i64 y2) :=
  ⟨h i _ 0 _ hi rfl, h i _ 1 _ hi rfl, h i _ 2 _ hi rfl, h i _ 3 _ hi rfl, h i _ 4 _ hi rfl, h i _ 5 _ hi rfl, h i _ 6 _ hi rfl⟩

theorem points_calls (k : Int) (w : World) : Calls Tryz.prog 112 #[.int .i64 k] w fun e w' => e = .returned (.int .i64 (points k)) ∧ w = w' := by
  by_cases h1 : k = 1
  · subst h1
    go_enter Tryz.func112, Tryz.ntmps112
    go_wp2
    go_ret
    exact ⟨rfl, rfl⟩
  by_cases h2 : k = 2
  · subst h2
    go_enter Tryz.func112, Tryz.ntmps112
    go_wp2
    go_ret
    exact ⟨rfl, rfl⟩
  by_cases h3 : k = 3
  · subst h3
    go_enter Tryz.func112, Tryz.ntmps112
    go_wp2
    go_ret
    exact ⟨rfl, rfl⟩
  by_cases h4 : k = 4
  · subst h4
    go_enter Tryz.func112, Tryz.ntmps112
    go_wp2
    go_ret
    exact ⟨rfl, rfl⟩
  have H := Lib.hid (show points k = -1 by simp [points, h1, h2, h3, h4])
  have d1 : (k == 1) = false := by simpa using h1
  have d2 : (k == 2) = false := by simpa using h2
  have d3 : (k == 3) = false := by simpa using h3
  have d4 : (k == 4) = false := by simpa using h4
  clear h1 h2 h3 h4
  go_enter Tryz.func112, Tryz.ntmps112
  go_wp2
  go_ret
  exact ⟨by rw [H.out]; rfl, rfl⟩

theorem follows_calls (k last : Int) (w : World) : Calls Tryz.prog 113 #[.int .i64 k, .int .i64 last] w fun e w' => e = .returned (.bool (follows k last)) ∧ w = w' := by
  by_cases h1 : k = 1
  · subst h1
    by_cases h2 : last = 1
    · subst h2
      have H := Lib.hid (show follows 1 1 = false from rfl)
      go_enter Tryz.func113, Tryz.ntmps113
      go_wp2
      go_ret
      exact ⟨by rw [H.out]; rfl, rfl⟩
    · have H := Lib.hid (show follows 1 last = true by simp [follows, h2])
      have d2 : (last != 1) = true := by simpa using h2
      clear h2
      go_enter Tryz.func113, Tryz.ntmps113
      go_wp2
      go_ret
      exact ⟨by rw [H.out]; rfl, rfl⟩
  · have d1 : (k == 1) = false := by simpa using h1
    by_cases h2 : last = 0
    · subst h2
      have H := Lib.hid (show follows k 0 = false by simp [follows, h1])
      clear h1
      go_enter Tryz.func113, Tryz.ntmps113
      go_wp2
      go_ret
      exact ⟨by rw [H.out]; rfl, rfl⟩
    · have d2 : (last != 0) = true := by simpa using h2
      by_cases h3 : last = 4
      · subst h3
        have H := Lib.hid (show follows k 4 = false by simp [follows, h1])
        clear h1
        go_enter Tryz.func113, Tryz.ntmps113
        go_wp2
        go_ret
        exact ⟨by rw [H.out]; rfl, rfl⟩
      · have d3 : (last != 4) = true := by simpa using h3
        have H := Lib.hid (show follows k last = true by simp [follows, h1, h2, h3])
        clear h1 h2 h3
        go_enter Tryz.func113, Tryz.ntmps113
        go_wp2
        go_ret
        exact ⟨by rw [H.out]; rfl, rfl⟩

end Go.Proofs.YtpellcdggaeppaaGreatDoor.Path
