/- A slice of integers that reads as a list, nil and empty included. No program in sight; no condition. -/
import Derived.Test.YtpellcdggaeppaaGreatDoorApp
namespace Go.Proofs.YtpellcdggaeppaaGreatDoor
open Go.RowKit

/-- the value is a slice whose elements are these integers -/
def Ints (k : IntKind) (w : World) (v : Value) (zs : List Int) : Prop :=
  ∃ ao c, v = .slice ao zs.length c ∧ zs.length ≤ c ∧ c ≤ 9223372036854775807 ∧ (ao = none → zs = [] ∧ c = 0) ∧ (0 < zs.length → ∃ b o, ao = some ⟨b, o, none⟩ ∧ b < w.heap.size ∧ ∀ i, i < zs.length → w.cell? ⟨b, o + i, none⟩ = some (.int k (zs.getD i 0))) ∧ ∀ z ∈ zs, (Lit.int k z).wf = true

theorem Ints.up {k : IntKind} {w w1 : World} {v : Value} {zs : List Int} (h : Ints k w v zs) (hu : Up w w1) : Ints k w1 v zs := by
  obtain ⟨ao, c, hv, hl, hm, hn, h0, hw⟩ := h
  refine ⟨ao, c, hv, hl, hm, hn, fun h1 => ?_, hw⟩
  obtain ⟨b, o, ha, hb, hc⟩ := h0 h1
  have := hu.size
  exact ⟨b, o, ha, by omega, fun i hi => by rw [hu.cells.1 b _ hb]; exact hc i hi⟩

theorem IsRow.ints {k : IntKind} {w : World} {a : Option Addr} {len cap : Nat} {zs : List Int} (h : IsRow k w a len cap zs) : Ints k w (.slice a len cap) (zs.take len) := by
  obtain ⟨hl, hm, hz⟩ := h.le
  have hlen : (zs.take len).length = len := by simp; omega
  unfold maxLen at hm
  refine ⟨a, cap, by rw [hlen], by omega, by omega, fun hn => ?_, fun h1 => ?_, fun z hz => ?_⟩
  · obtain ⟨h2, h3⟩ := h.none hn
    exact ⟨by simp [h2], h3⟩
  · obtain ⟨b, o, ha, _, _, _, hc, _, hb⟩ := h.at (by omega)
    refine ⟨b, o, ha, hb, fun i hi => ?_⟩
    rw [hc i (by omega)]
    simp [List.getD, show i < len by omega]
  · rcases h with ⟨_, _, _, h4⟩ | ⟨_, _, _, _, _, _, hw⟩
    · subst h4; simp at hz
    · exact hw z (List.mem_of_mem_take hz)

theorem owns_ints {k : IntKind} {w : World} {base : Nat} {e : TypeId} {n : Nat} {v : Value} {zs : List Int} (h : w.ownsRow base e 1 v n (zs.map (Value.int k))) (hw : ∀ z ∈ zs, (Lit.int k z).wf = true) : Ints k w v zs := by
  have hn : zs.length = n := by simpa using h.1
  by_cases hv : v = .slice none 0 0
  · subst hv
    have h2 := h.2
    rcases h2 with ⟨_, h3⟩ | ⟨g, cap, cur, h3, _⟩
    · have : zs = [] := List.length_eq_zero_iff.1 (by omega)
      subst this
      exact ⟨none, 0, rfl, by simp, by simp, fun _ => ⟨rfl, rfl⟩, fun h => by simp at h, hw⟩
    · cases h3
  · obtain ⟨g, c, hv, hb, hnc, hcm, hg, _, hc⟩ := owns_some h hv
    unfold maxLen at hcm
    subst hv
    refine ⟨some ⟨g, 0, none⟩, c, by rw [hn], by omega, by omega, fun h => by (cases h), fun h1 => ⟨g, 0, rfl, hg, fun i hi => ?_⟩, hw⟩
    rw [Nat.zero_add]
    apply hc i
    simp [List.getD, hi]

/-- its parts, for a walk -/
theorem Ints.src {k : IntKind} {w : World} {v : Value} {zs : List Int} (h : Ints k w v zs) :
    ∃ ao c, v = .slice ao zs.length c ∧ zs.length ≤ c ∧ c ≤ 9223372036854775807 ∧ (ao = none → zs.length = 0 ∧ c = 0) ∧ ∀ ad, ao = some ad → ∀ j u, (zs.map (Value.int k))[j]? = some u → w.cell? (ad.add j) = some u := by
  obtain ⟨ao, c, hv, hl, hm, hn, h0, hw⟩ := h
  refine ⟨ao, c, hv, hl, hm, fun h => ⟨by rw [(hn h).1]; rfl, (hn h).2⟩, fun ad ha j u hu => ?_⟩
  have hj : j < zs.length := by simpa using (List.getElem?_eq_some_iff.1 hu).1
  obtain ⟨b, o, hb, _, hc⟩ := h0 (by omega)
  rw [hb] at ha
  obtain rfl := Option.some.inj ha
  rw [add_plain, hc j hj]
  simp only [List.getElem?_map, List.getElem?_eq_getElem hj, Option.map_some] at hu
  rw [← hu]
  simp [List.getD, hj]

theorem ints_nil (k : IntKind) (w : World) : Ints k w (.slice none 0 0) [] :=
  ⟨none, 0, rfl, by simp, by simp, fun _ => ⟨rfl, rfl⟩, fun h => by simp at h, fun z hz => by simp at hz⟩
theorem Ints.news {k : IntKind} {zs : List Int} {ao : Option Addr} {c : Nat} {w W : World} (h : Ints k w (.slice ao zs.length c) zs) (hu : Up w W) : ∀ ad, ao = some ad → ∀ j u, (zs.map (Value.int k))[j]? = some u → W.cell? (ad.add j) = some u := by
  obtain ⟨ao', c', hv, _, _, _, hc⟩ := (h.up hu).src
  injection hv with e1
  subst e1
  exact hc
theorem Ints.wf {k : IntKind} {zs : List Int} {v : Value} {w : World} (h : Ints k w v zs) : ∀ z ∈ zs, (Lit.int k z).wf = true := by
  obtain ⟨_, _, _, _, _, _, _, h⟩ := h
  exact h
theorem Ints.both {k : IntKind} {za zb : List Int} (ha : ∀ z ∈ za, (Lit.int k z).wf = true) (hb : ∀ z ∈ zb, (Lit.int k z).wf = true) : ∀ z ∈ za ++ zb, (Lit.int k z).wf = true := by
  intro z hz
  rcases List.mem_append.1 hz with h | h
  · exact ha z h
  · exact hb z h

end Go.Proofs.YtpellcdggaeppaaGreatDoor
