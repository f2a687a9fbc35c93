/- Sound segments, drawn one by one, are these again. No program in sight; no condition. -/
import Derived.Test.YteddlahklilncaaPathM2
namespace Go.Proofs.Yteddlahklilncaa.PathM

theorem soundFrom_of {l : List Seg} (h : sound l = true) : soundFrom 0 l = true := by unfold sound at h; simp at h; exact h.2
theorem sound_len {l : List Seg} (h : sound l = true) : l.length ≤ 4096 := by unfold sound at h; simp at h; exact h.1
theorem add_one (l : List Seg) (k : Nat) (s : Seg) (s0 n0 to : Pt) (hg : l[k]? = some s) : St.add ⟨l.length, l.take k, s0, n0⟩ to [s] = (⟨l.length, l.take (k + 1), s0, to⟩, 0) := by
  have hk := (List.getElem?_eq_some_iff.1 hg).1
  unfold St.add
  rw [if_neg (by simp; omega), take_succ_of hg]
theorem draw_step {l : List Seg} {k : Nat} {s : Seg} (s0 n0 : Pt) (hs : sound l = true) (hg : l[k]? = some s) :
    (s.k = 1 ∧ lastK (l.take k) ≠ 1 ∧ St.move ⟨l.length, l.take k, s0, n0⟩ s.a = (⟨l.length, l.take (k + 1), s.a, s.a⟩, 0)) ∨
    (s.k = 2 ∧ St.line ⟨l.length, l.take k, s0, n0⟩ s.a = (⟨l.length, l.take (k + 1), s0, s.a⟩, 0)) ∨
    (s.k = 3 ∧ St.curve ⟨l.length, l.take k, s0, n0⟩ s.a s.b s.c = (⟨l.length, l.take (k + 1), s0, s.c⟩, 0)) ∨
    (s.k = 4 ∧ St.close ⟨l.length, l.take k, s0, n0⟩ = (⟨l.length, l.take (k + 1), s0, s0⟩, 0)) := by
  have h := soundFrom_at (soundFrom_of hs) hg
  obtain ⟨kk, a, b, c⟩ := s
  unfold soundSeg at h
  simp only [Bool.and_eq_true, decide_eq_true_eq, Bool.not_eq_true', Seg.pts] at h
  obtain ⟨hp, hf, ha, hz⟩ := h
  simp only [List.all_cons, List.all_nil, Bool.and_true, Bool.and_eq_true] at ha
  obtain ⟨fa, fb, fc⟩ := ha
  rcases points_cases hp with ⟨rfl, hn⟩ | ⟨rfl, hn⟩ | ⟨rfl, hn⟩ | ⟨rfl, hn⟩
  · left
    rw [hn] at hz
    simp [nz] at hz
    obtain ⟨rfl, rfl⟩ := hz
    have hl : lastK (l.take k) ≠ 1 := by simpa [follows] using hf
    refine ⟨rfl, hl, ?_⟩
    unfold St.move
    have e := add_one l k ⟨1, a, Z, Z⟩ s0 n0 a hg
    rw [if_pos fa, if_neg hl, e, if_pos rfl]
  · right; left
    rw [hn] at hz
    simp [nz] at hz
    obtain ⟨rfl, rfl⟩ := hz
    simp [follows] at hf
    refine ⟨rfl, ?_⟩
    unfold St.line St.draw
    rw [if_pos fa, if_neg hf.1, if_neg hf.2]
    exact add_one l k ⟨2, a, Z, Z⟩ s0 n0 a hg
  · right; right; left
    simp [follows] at hf
    refine ⟨rfl, ?_⟩
    unfold St.curve St.draw
    rw [if_pos (by simp [fa, fb, fc]), if_neg hf.1, if_neg hf.2]
    exact add_one l k ⟨3, a, b, c⟩ s0 n0 c hg
  · right; right; right
    rw [hn] at hz
    simp [nz] at hz
    obtain ⟨rfl, rfl, rfl⟩ := hz
    simp [follows] at hf
    refine ⟨rfl, ?_⟩
    unfold St.close
    rw [if_neg hf.1, if_neg hf.2]
    exact add_one l k ⟨4, Z, Z, Z⟩ s0 n0 s0 hg

end Go.Proofs.Yteddlahklilncaa.PathM
