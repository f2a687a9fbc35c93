/- Small lemmas on endings and on worlds that only grow. No program in sight; no condition. -/
import Derived.WalkKit
import Derived.Below
import Derived.Lib.Hide
import Derived.Deep.Draws
import Derived.ProofKit
import Derived.OpenShut
namespace Go.Proofs.YtpellcdggaeppaaGreatDoor
open Go.RowKit

/-- an ending, by its value -/
theorem retv {a b : Value} (h : a = b) : Ending.returned a = .returned b := by rw [h]
theorem retb {a b : Bool} (h : a = b) : Ending.returned (.bool a) = .returned (.bool b) := by rw [h]
theorem reti {k : IntKind} {a b : Int} (h : a = b) : Ending.returned (.int k a) = .returned (.int k b) := by rw [h]

/-- THE WORLD HAS GROWN: whatever was there is as it was. -/
abbrev Up (w w' : World) : Prop := Below w.heap.size w w'
theorem Up.refl (w : World) : Up w w := Below.refl _ _
theorem Up.alloc {w a : World} (h : Up w a) (o : Obj) : Up w (a.alloc o) := Below.alloc h h.size o
theorem Up.drew {w a : World} (h : Up w a) : Up w a.drew := Below.drew h
theorem Up.drewN {w a : World} (h : Up w a) (n : Nat) : Up w (a.drewN n) := h.trans ⟨rfl, rfl, rfl, Nat.le_refl _, fun _ _ => rfl⟩
theorem Up.call {w a b : World} (h : Up w a) (k : Up a b) : Up w b := h.trans (k.mono h.size)
theorem Up.setCell {w a : World} (h : Up w a) {p : Addr} (hp : w.heap.size ≤ p.block) (u : Value) : Up w (a.setCell p u) := Below.setCell h hp u
theorem Up.cells {W w1 : World} (hb : Up W w1) : (∀ b o, b < W.heap.size → w1.cell? ⟨b, o, none⟩ = W.cell? ⟨b, o, none⟩) ∧ (∀ b o, b < W.heap.size → w1.frozen? ⟨b, o, none⟩ = W.frozen? ⟨b, o, none⟩) :=
  ⟨fun b o h => hb.cell (p := ⟨b, o, none⟩) h, fun b o h => hb.frozen (p := ⟨b, o, none⟩) h⟩


open Go.ChangeShapes Go.WideShapes in
/-- a slice of integers that came in: it is nil, or it leads to a row of cells, the numbers 'zs' (the first 'len' are its elements) -/
def IsRow (k : IntKind) (w : World) (a : Option Addr) (len cap : Nat) (zs : List Int) : Prop :=
  (a = none ∧ len = 0 ∧ cap = 0 ∧ zs = []) ∨
  ∃ x, a = some x ∧ len ≤ cap ∧ cap ≤ maxLen ∧ zs.length = cap ∧ (∀ i, i < zs.length → w.cell? (x.add i) = some (.int k (zs.getD i 0))) ∧ ∀ n ∈ zs, (Lit.int k n).wf = true

open Go.ChangeShapes Go.WideShapes in
theorem isRow_of {H : Type} {enc : TypeId × Value → H} {P : Program} {W : World} {t e : TypeId} {k : IntKind} {a : Option Addr} {len cap : Nat} {d : DataW H} {p : List MemPlace}
    (ht : P.underlying t = some (.slice e)) (he : P.underlying e = some (.int k)) (hc : P.cellsOf e = 1) (h : DataW.Trod enc P W 0 (fun _ => true) true t (.slice a len cap) d p) : ∃ zs, IsRow k W a len cap zs := by
  obtain ⟨fuel, hf⟩ := h
  rcases open_ints ht he hc hf with ⟨hcs, _⟩ | ⟨x, l, c, zs, hcs, _, hl, hm, hz, _, hcell, hwz⟩
  · simp [Value.cells] at hcs
    obtain ⟨rfl, rfl, rfl⟩ := hcs
    exact ⟨[], .inl ⟨rfl, rfl, rfl, rfl⟩⟩
  · simp [Value.cells] at hcs
    obtain ⟨rfl, rfl, rfl⟩ := hcs
    exact ⟨zs, .inr ⟨x, rfl, hl, hm, by simpa using hz, hcell, hwz⟩⟩

theorem add_plain (b o i : Nat) : (⟨b, o, none⟩ : Addr).add i = ⟨b, o + i, none⟩ := by
  by_cases h : i = 0
  · subst h; simp [Addr.add]
  · simp [Addr.add, h]
theorem cell_lt {w : World} {b o : Nat} {v : Value} (h : w.cell? ⟨b, o, none⟩ = some v) : b < w.heap.size := by
  rcases Nat.lt_or_ge b w.heap.size with hl | hg
  · exact hl
  · have hn : w.heap[b]? = none := by simp; omega
    simp [World.cell?, hn] at h

/-- where it has room its cells lie in a block that is there -/
theorem IsRow.at {k : IntKind} {w : World} {a : Option Addr} {len cap : Nat} {zs : List Int} (h : IsRow k w a len cap zs) (h0 : 0 < cap) :
    ∃ b o, a = some ⟨b, o, none⟩ ∧ len ≤ cap ∧ cap ≤ 9223372036854775807 ∧ zs.length = cap ∧ (∀ i, i < cap → w.cell? ⟨b, o + i, none⟩ = some (.int k (zs.getD i 0))) ∧ (∀ n ∈ zs, (Lit.int k n).wf = true) ∧ b < w.heap.size := by
  rcases h with ⟨_, _, rfl, _⟩ | ⟨⟨b, o, sp⟩, rfl, hl, hm, hz, hcell, hwz⟩
  · omega
  · have hc0 := hcell 0 (by omega)
    have hsp : sp = none := by simpa [Addr.add] using World.cell?_spot hc0
    subst hsp
    have hb := cell_lt hc0
    unfold maxLen at hm
    exact ⟨b, o, rfl, hl, hm, hz, fun i hi => by rw [← add_plain]; exact hcell i (by omega), hwz, hb⟩

end Go.Proofs.YtpellcdggaeppaaGreatDoor
