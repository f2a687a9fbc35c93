/- Slices that a value owns: which block, and what a call may leave of it. No program in sight; no condition. -/
import Derived.Test.YtpellcdggaeppaaGreatDoorChg
import Derived.Test.YtpellcdggaeppaaGreatDoorApp
import Derived.Laws.OwnMore
import Derived.Deep.AppendLies
namespace Go.Proofs.YtpellcdggaeppaaGreatDoor
open Go.ChangeShapes Go.WideShapes Go.RowKit
set_option linter.unusedVariables false

def own (v : Value) : List Nat := match v.ownBlock with | some g => [g] | none => []
theorem own_mem {v : Value} {g : Nat} (h : v.ownBlock = some g) : g ∈ own v := by simp [own, h]
theorem own_of {v : Value} {g : Nat} (h : g ∈ own v) : v.ownBlock = some g := by
  unfold own at h
  split at h
  · simp only [List.mem_singleton] at h; subst h; assumption
  · simp at h
/-- a slice's block is the old one, or a new one -/
def Own (w : World) (v v' : Value) : Prop := ∀ g, v'.ownBlock = some g → v.ownBlock = some g ∨ w.heap.size ≤ g
theorem Own.refl (w : World) (v : Value) : Own w v v := fun g h => Or.inl h
theorem Chg.grown {S : List Nat} {w a c : World} {r : Option Nat} (h : Chg S w a) (hg : a.grownBy c r) (hr : ∀ k, r = some k → k ∈ S ∨ w.heap.size ≤ k) : Chg S w c :=
  ⟨hg.os.trans h.os, hg.tape.trans h.tape, hg.output.trans h.output, Nat.le_trans h.size hg.size, fun k hk hn => by
    rw [hg.block k (Nat.lt_of_lt_of_le hk h.size) (fun e => (hr k e.symm).elim hn (fun h2 => by omega)), h.block k hk hn]⟩
theorem owned_chg {S : List Nat} {w w1 : World} {e : TypeId} {k : Nat} {v : Value} {n : Nat} {xs : List Value} (h : w.ownsRow 0 e k v n xs) (hc : Chg S w w1) (hn : ∀ g, v.ownBlock = some g → g ∉ S) : w1.ownsRow 0 e k v n xs := by
  refine ⟨h.1, ?_⟩
  rcases h.2 with h1 | ⟨g, cap, cur, hv, hb, hg, hr⟩
  · exact Or.inl h1
  · refine Or.inr ⟨g, cap, cur, hv, hb, ?_, hr⟩
    rw [hc.block g (Array.getElem?_eq_some_iff.1 hg).1 (hn g (by rw [hv]; rfl))]
    exact hg
theorem owned_up {w w1 : World} {e : TypeId} {k : Nat} {v : Value} {n : Nat} {xs : List Value} (h : w.ownsRow 0 e k v n xs) (hc : Up w w1) : w1.ownsRow 0 e k v n xs := owned_chg (S := []) h (Chg.of_up hc) (by simp)
theorem owned_form {w : World} {e : TypeId} {k : Nat} {v : Value} {n : Nat} {xs : List Value} (h : w.ownsRow 0 e k v n xs) : (v = .slice none 0 0 ∧ n = 0) ∨ ∃ g cap, v = .slice (some ⟨g, 0, none⟩) n cap ∧ n ≤ cap ∧ cap ≤ maxLen ∧ g < w.heap.size := by
  rcases h.2 with ⟨h1, h2⟩ | ⟨g, cap, cur, hv, _, hg, hn, hm, _⟩
  · exact Or.inl ⟨h1, h2⟩
  · exact Or.inr ⟨g, cap, hv, hn, hm, (Array.getElem?_eq_some_iff.1 hg).1⟩
theorem owned_val {w : World} {e : TypeId} {k : Nat} {v : Value} {n : Nat} {xs : List Value} (h : w.ownsRow 0 e k v n xs) : ∃ a cap, v = .slice a n cap := by
  rcases owned_form h with ⟨rfl, rfl⟩ | ⟨g, cap, rfl, _⟩
  · exact ⟨_, _, rfl⟩
  · exact ⟨_, _, rfl⟩
/-- the new cells of an append, out of a block that is known whole -/
theorem news_at {w : World} {g : Nat} {cs : Array Value} {l : List Value} (h : Row w g cs) (e : cs.toList = l) : ∀ j u, l[j]? = some u → w.cell? ((⟨g, 0, none⟩ : Addr).add j) = some u := fun j u hu => by
  rw [add_plain, Nat.zero_add]
  exact h.cell j (by subst e; simpa using hu)
theorem Row.chg' {S : List Nat} {w w' : World} {b : Nat} {cs : Array Value} (h : Row w b cs) (hc : Chg S w w') (hn : b ∉ S) : Row w' b cs := h.chg hc hn

end Go.Proofs.YtpellcdggaeppaaGreatDoor
