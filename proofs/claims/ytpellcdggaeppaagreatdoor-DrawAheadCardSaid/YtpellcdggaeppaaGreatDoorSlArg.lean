/- A slice of structs that came in: it is nil, or it leads to its elements' cells. No program in sight; no condition. -/
import Derived.Test.YtpellcdggaeppaaGreatDoorBase
import Derived.Deep.Slices
import Derived.ChangeSame
import Derived.OpenShut
namespace Go.Proofs.YtpellcdggaeppaaGreatDoor
open Go.ChangeShapes Go.WideShapes Go.RowKit Go.Deep
set_option linter.unusedVariables false

/-- elements of K cells each -/
def Sl {α : Type} (K : Nat) (cells : α → List Value) (w : World) (a : Option Addr) (len cap : Nat) (l : List α) : Prop :=
  len ≤ cap ∧ cap ≤ 9223372036854775807 ∧ l.length = len ∧ (a = none → len = 0 ∧ cap = 0) ∧
    (0 < len → ∃ b o, a = some ⟨b, o, none⟩ ∧ b < w.heap.size ∧ ∀ (i : Nat) (s : α) (j : Nat) (u : Value), l[i]? = some s → (cells s)[j]? = some u → w.cell? ⟨b, o + i * K + j, none⟩ = some u)

theorem trod_field {P : Program} {H : Type} {enc : TypeId × Value → H} {w : World} {base : Nat} {spare : Nat → Bool} {held : Bool} {t : TypeId} {fs : Array Field} {fuel : Nat} {cs : List Value} {x : DataW H × List MemPlace}
    (ht : P.underlying t = some (.struct fs)) (h : DataW.trod enc P w base spare held fuel t cs = some x) :
    ∃ n, cs.length = P.cellsOf t ∧ ∀ (i : Nat) (f : Field), fs[i]? = some f → ∃ y, DataW.trod enc P w base spare held n f.type ((cs.drop f.offset).take (P.cellsOf f.type)) = some y := by
  obtain ⟨xs, n, _, rfl, hl, hlen, hf⟩ := DataW.trod_struct ht h
  refine ⟨n, hl, fun i f hi => ?_⟩
  have hlt : i < xs.length := by rw [hlen]; exact (Array.getElem?_eq_some_iff.1 hi).1
  exact ⟨xs[i], by rw [hf i f hi, List.getElem?_eq_getElem hlt]⟩

theorem sl_of {α : Type} {P : Program} {H : Type} {enc : TypeId × Value → H} {W : World} {a : Option Addr} {len cap : Nat} {d : DataW H} {p : List MemPlace} {t e : TypeId} (dflt : α) (K : Nat) (cells : α → List Value) (WF : α → Prop)
    (hu : P.underlying t = some (.slice e)) (hK : P.cellsOf e = K) (h0K : 0 < K) (hlen : ∀ s, (cells s).length = K)
    (op : ∀ (base : Nat) (spare : Nat → Bool) (held : Bool) (fuel : Nat) (cs : List Value) (y : DataW H × List MemPlace), DataW.trod enc P W base spare held fuel e cs = some y → ∃ s, cs = cells s ∧ WF s)
    (h : DataW.Trod enc P W 0 (fun _ => true) true t (.slice a len cap) d p) : ∃ l, Sl K cells W a len cap l ∧ ∀ s ∈ l, WF s := by
  obtain ⟨fuel, hf⟩ := h
  rcases open_slice hu hf with ⟨hcs, _⟩ | ⟨x, l, c, m, n, D, Pl, hcs, _, hl, hm, hmm, _, hx⟩
  · simp [Value.cells] at hcs
    obtain ⟨rfl, rfl, rfl⟩ := hcs
    exact ⟨[], ⟨Nat.le_refl _, by decide, rfl, fun _ => ⟨rfl, rfl⟩, fun h => absurd h (by decide)⟩, by simp⟩
  · simp [Value.cells] at hcs
    obtain ⟨rfl, rfl, rfl⟩ := hcs
    simp only [if_true] at hmm
    subst hmm
    rw [hK] at hx
    have each : ∀ i, ∃ s : α, i < m → WF s ∧ ∀ j u, (cells s)[j]? = some u → W.cell? ((x.add (i * K)).add j) = some u := by
      intro i
      by_cases hi : i < m
      · obtain ⟨cs, hc, ht⟩ := hx i hi
        obtain ⟨s, rfl, hs⟩ := op _ _ _ _ _ _ ht
        refine ⟨s, fun _ => ⟨hs, fun j u hu => ?_⟩⟩
        unfold World.cells? at hc
        rw [if_pos (Nat.zero_le _)] at hc
        have hj : j < K := by
          have := (List.getElem?_eq_some_iff.1 hu).1
          rwa [hlen] at this
        have := mapM_some_get hc j j (by simp [hj])
        rw [this, hu]
      · exact ⟨dflt, fun h => absurd h hi⟩
    obtain ⟨f, hf⟩ := Classical.axiomOfChoice each
    refine ⟨(List.range len).map f, ⟨hl, by unfold maxLen at hm; omega, by simp, (fun h => by cases h), ?_⟩, ?_⟩
    · intro h0
      obtain ⟨b, o, sp⟩ := x
      have hk0 : 0 < (cells (f 0)).length := by rw [hlen]; exact h0K
      have hc0 := (hf 0 (by omega)).2 0 _ (List.getElem?_eq_getElem hk0)
      have hsp : sp = none := by
        have := World.cell?_spot hc0
        simpa [Addr.add] using this
      subst hsp
      rw [add_plain, add_plain] at hc0
      refine ⟨b, o, rfl, cell_lt hc0, fun i s j u hs hu => ?_⟩
      obtain ⟨hi, e⟩ := List.getElem?_eq_some_iff.1 hs
      simp at hi e
      subst e
      have := (hf i (by omega)).2 j u hu
      rwa [add_plain, add_plain] at this
    · intro s hs
      simp only [List.mem_map, List.mem_range] at hs
      obtain ⟨i, hi, rfl⟩ := hs
      exact (hf i (by omega)).1

end Go.Proofs.YtpellcdggaeppaaGreatDoor
