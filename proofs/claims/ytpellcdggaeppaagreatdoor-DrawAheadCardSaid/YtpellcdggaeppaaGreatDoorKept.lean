/- What a write into a bytes.Buffer leaves of the other rows. No program in sight; no condition. -/
import Derived.Test.YtpellcdggaeppaaGreatDoorBase
import Derived.Lib.BufferOwn
import Derived.Lib.BufferWrite
import Derived.Lib.OthersKept
namespace Go.Proofs.YtpellcdggaeppaaGreatDoor
open Go.RowKit

/-- of what was there nothing has turned but block b and rows of the element type e without a mark -/
def Kept (e : TypeId) (b : Nat) (w w' : World) : Prop := ∀ k o, w.heap[k]? = some o → k ≠ b → (∀ c, o ≠ .cells c e (0, 0)) → w'.heap[k]? = some o
theorem Kept.refl (e : TypeId) (b : Nat) (w : World) : Kept e b w w := fun _ _ h _ _ => h
theorem Kept.trans {e : TypeId} {b : Nat} {x y z : World} (h : Kept e b x y) (k : Kept e b y z) : Kept e b x z := fun i o hi hb ho => k i o (h i o hi hb ho) hb ho
theorem Kept.grown {e : TypeId} {b : Nat} {w w' : World} (h : w.grownBy w' (some b)) : Kept e b w w' := fun k o hk hb _ => by
  rw [h.block k (Array.getElem?_eq_some_iff.1 hk).1 (fun e => hb (Option.some.inj e))]; exact hk
theorem Kept.setB {e : TypeId} {b : Nat} {w : World} (i : Nat) (v : Value) : Kept e b w (w.setCell ⟨b, i, none⟩ v) := fun k o hk hb _ => by
  rw [Below.heap_setCell _ _ _ _ (fun e => hb (by simpa using e))]; exact hk
theorem Kept.setG {e : TypeId} {b g : Nat} {w : World} {cur : Array Value} (hg : w.heap[g]? = some (.cells cur e (0, 0))) (i : Nat) (v : Value) : Kept e b w (w.setCell ⟨g, i, none⟩ v) := fun k o hk hb ho => by
  have hne : k ≠ g := fun e => by subst e; rw [hk] at hg; exact ho _ (Option.some.inj hg)
  rw [Below.heap_setCell _ _ _ _ (fun e => hne (by simpa using e))]; exact hk
theorem Kept.setRowG {e : TypeId} {b g : Nat} {w : World} {cur : Array Value} (hg : w.heap[g]? = some (.cells cur e (0, 0))) (ns : Array Value) : Kept e b w (w.setRow g ns) := fun k o hk hb ho => by
  have hne : k ≠ g := fun e => by subst e; rw [hk] at hg; exact ho _ (Option.some.inj hg)
  rw [setRow_other _ _ _ _ hne]; exact hk
theorem Kept.drewN {e : TypeId} {b : Nat} {w w1 : World} (h : Kept e b w w1) (n : Nat) : Kept e b w (w1.drewN n) := h
theorem Kept.up {e : TypeId} {b : Nat} {w w1 w2 : World} (h : Kept e b w w1) (k : Up w1 w2) : Kept e b w w2 := fun i o hi hb ho => by
  have h1 := h i o hi hb ho
  rw [k.block i (Array.getElem?_eq_some_iff.1 h1).1]; exact h1
/-- a row with a mark reads as it did -/
theorem Kept.cell {e : TypeId} {b g : Nat} {w w1 : World} (h : Kept e b w w1) {c : Array Value} {t : TypeId} {fr : Nat × Nat} (hg : w.heap[g]? = some (.cells c t fr)) (hb : g ≠ b) (hf : fr ≠ (0, 0) ∨ t ≠ e) : w1.heap[g]? = some (.cells c t fr) :=
  h g _ hg hb (fun c' he => by
    injection he with h1 h2 h3
    rcases hf with hf | hf
    · exact hf h3
    · exact hf h2)

end Go.Proofs.YtpellcdggaeppaaGreatDoor
