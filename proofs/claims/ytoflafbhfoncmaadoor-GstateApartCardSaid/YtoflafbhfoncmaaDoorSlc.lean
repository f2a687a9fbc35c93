/- Slices of integers while some other blocks turn; a slice that was just written out. No program in sight; no condition. -/
import Derived.Test.YtoflafbhfoncmaaDoorSl
import Derived.Test.YtoflafbhfoncmaaDoorChg
namespace Go.Proofs.YtoflafbhfoncmaaDoor
open Go.RowKit

theorem Ints.chg {k : IntKind} {S : List Nat} {w w1 : World} {v : Value} {zs : List Int} (h : Ints k w v zs) (hu : Chg S w w1) (hn : ∀ g, v.ownBlock = some g → g ∉ S) : Ints k w1 v zs := by
  obtain ⟨ao, c, hv, hl, hm, h0, h1, hw⟩ := h
  refine ⟨ao, c, hv, hl, hm, h0, fun h2 => ?_, hw⟩
  have := hu.size
  obtain ⟨b, o, ha, hb, hc⟩ := h1 h2
  have hnb : b ∉ S := hn b (by rw [hv, ha]; rfl)
  exact ⟨b, o, ha, by omega, fun i hi => by rw [hu.cells.1 b _ hb hnb]; exact hc i hi⟩

/-- a slice of integers that was just written out -/
theorem ownsRow_lit (w : World) (k : IntKind) (zs : List Int) (base : Nat) (e : TypeId) (hb : base ≤ w.heap.size) (hl : zs.length ≤ 1000000) :
    (w.alloc (.cells (zs.map (Value.int k)).toArray e)).ownsRow base e 1 (.slice (some ⟨w.heap.size, 0, none⟩) zs.length zs.length) zs.length (zs.map (Value.int k)) :=
  ⟨by simp, .inr ⟨w.heap.size, zs.length, _, rfl, hb, heap_alloc_new w _, Nat.le_refl _, by unfold maxLen; omega, by simp, by simp [List.take_of_length_le]⟩⟩
theorem ints_lit (w : World) (k : IntKind) (zs : List Int) (e : TypeId) (hl : zs.length ≤ 1000000) (hw : ∀ z ∈ zs, (Lit.int k z).wf = true) :
    Ints k (w.alloc (.cells (zs.map (Value.int k)).toArray e)) (.slice (some ⟨w.heap.size, 0, none⟩) zs.length zs.length) zs :=
  owns_ints (ownsRow_lit w k zs w.heap.size e (Nat.le_refl _) hl) hw

theorem noBlock (S : List Nat) (n c : Nat) : ∀ g, (Value.slice none n c).ownBlock = some g → g ∉ S := fun g hg => by cases hg
theorem atBlock {S : List Nat} {b : Nat} (h : b ∉ S) (o : Nat) (sp : Option Nat) (n c : Nat) : ∀ g, (Value.slice (some ⟨b, o, sp⟩) n c).ownBlock = some g → g ∉ S := fun g hg => by
  have h9 : b = g := by injection hg
  rw [← h9]; exact h

end Go.Proofs.YtoflafbhfoncmaaDoor
