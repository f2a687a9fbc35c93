/- Which segments are sound. -/
import Derived.Test.YtoflafbhfoncmaaDoorGP
import Derived.Test.YtoflafbhfoncmaaDoorPathM2
import Derived.Test.YtoflafbhfoncmaaDoorSegArg
namespace Go.Proofs.YtoflafbhfoncmaaDoor.Path
open Go.ChangeShapes Go.WideShapes Go.ChangeAt Go.RowKit
open Go.Proofs.YtoflafbhfoncmaaDoor.FixM (fits)
open Go.Proofs.YtoflafbhfoncmaaDoor.PathM
set_option linter.unusedVariables false
set_option linter.unusedSimpArgs false

/-- segments that lie in a row -/
def SegAt (w : World) (b o : Nat) (l : List Seg) : Prop := ∀ (i : Nat) (s : Seg) (j : Nat) (u : Value), l[i]? = some s → s.cells[j]? = some u → w.cell? ⟨b, o + i * 7 + j, none⟩ = some u
/-- a slice of segments -/
def SegV (w : World) (v : Value) (l : List Seg) : Prop :=
  (∃ a cap, v = .slice a 0 cap ∧ l = []) ∨ ∃ b o cap, v = .slice (some ⟨b, o, none⟩) l.length cap ∧ 0 < l.length ∧ b < w.heap.size ∧ SegAt w b o l ∧ l.length ≤ 9223372036854775807
theorem SegAt.up {w w1 : World} {b o : Nat} {l : List Seg} (h : SegAt w b o l) (hb : b < w.heap.size) (hu : Up w w1) : SegAt w1 b o l := fun i s j u hs hj => (hu.cells.1 b _ hb).trans (h i s j u hs hj)
theorem SegAt.chg {S : List Nat} {w w1 : World} {b o : Nat} {l : List Seg} (h : SegAt w b o l) (hb : b < w.heap.size) (hu : Chg S w w1) (hn : b ∉ S) : SegAt w1 b o l := fun i s j u hs hj => (hu.cells.1 b _ hb hn).trans (h i s j u hs hj)
theorem SegV.up {w w1 : World} {v : Value} {l : List Seg} (h : SegV w v l) (hu : Up w w1) : SegV w1 v l := by
  rcases h with h | ⟨b, o, cap, h1, h2, h3, h4, h5⟩
  · exact Or.inl h
  · exact Or.inr ⟨b, o, cap, h1, h2, Nat.lt_of_lt_of_le h3 hu.size, h4.up h3 hu, h5⟩
theorem Segs.v {w : World} {v : Value} {l : List Seg} (h : Segs w v l) : SegV w v l := by
  rcases h.form with ⟨rfl, rfl⟩ | ⟨g, cap, rfl, h1, h2, h3⟩
  · exact Or.inl ⟨none, 0, rfl, rfl⟩
  · by_cases h0 : l.length = 0
    · have := List.eq_nil_of_length_eq_zero h0
      subst this
      exact Or.inl ⟨_, cap, rfl, rfl⟩
    · refine Or.inr ⟨g, 0, cap, rfl, by omega, h3, fun i s j u hs hj => ?_, by unfold maxLen at h2; omega⟩
      rw [Nat.zero_add]
      refine h.at i s hs j ?_ u hj
      have := (List.getElem?_eq_some_iff.1 hj).1
      simpa [PathM.Seg.cells] using this
theorem _root_.Go.Proofs.YtoflafbhfoncmaaDoor.SegIs.v {w : World} {a : Option Addr} {len cap : Nat} {l : List Seg} (h : SegIs w a len cap l) : SegV w (.slice a len cap) l := by
  obtain ⟨h1, h2, h3, h4, h5, h6⟩ := h
  subst h3
  by_cases h0 : l.length = 0
  · have := List.eq_nil_of_length_eq_zero h0
    subst this
    exact Or.inl ⟨a, cap, rfl, rfl⟩
  · obtain ⟨b, o, rfl, hb, hc⟩ := h6 (by omega)
    exact Or.inr ⟨b, o, cap, rfl, by omega, hb, hc, by omega⟩
theorem SegAt.seven {w : World} {b o : Nat} {l : List Seg} (h : SegAt w b o l) (i : Nat) (k x0 y0 x1 y1 x2 y2 : Int) (hi : l[i]? = some ⟨k, (x0, y0), (x1, y1), (x2, y2)⟩) :
    w.cell? ⟨b, o + i * 7, none⟩ = some (.int .i64 k) ∧ w.cell? ⟨b, o + i * 7 + 1, none⟩ = some (.int .i64 x0) ∧ w.cell? ⟨b, o + i * 7 + 2, none⟩ = some (.int .i64 y0) ∧ w.cell? ⟨b, o + i * 7 + 3, none⟩ = some (.int .i64 x1) ∧
    w.cell? ⟨b, o + i * 7 + 4, none⟩ = some (.int .i64 y1) ∧ w.cell? ⟨b, o + i * 7 + 5, none⟩ = some (.int .i64 x2) ∧ w.cell? ⟨b, o + i * 7 + 6, none⟩ = some (.int .i64 y2) :=
  ⟨h i _ 0 _ hi rfl, h i _ 1 _ hi rfl, h i _ 2 _ hi rfl, h i _ 3 _ hi rfl, h i _ 4 _ hi rfl, h i _ 5 _ hi rfl, h i _ 6 _ hi rfl⟩

end Go.Proofs.YtoflafbhfoncmaaDoor.Path
