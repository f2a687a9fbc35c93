/- A slice of segments that came in. -/
import Derived.Test.YtpellcdggaeppaaGreatDoorPathM
import Derived.Test.YtpellcdggaeppaaGreatDoorArgs
import Derived.Test.YtpellcdggaeppaaGreatDoorFix
import Derived.Deep.Slices
import Derived.ChangeSame
import Derived.OpenShut
namespace Go.Proofs.YtpellcdggaeppaaGreatDoor
open Go.ChangeShapes Go.WideShapes Go.RowKit Go.Deep
open Go.Proofs.YtpellcdggaeppaaGreatDoor.PathM (Seg)
set_option linter.unusedVariables false

def Seg.wf (s : Seg) : Prop := (Lit.int .i64 s.k).wf = true ∧ ((Lit.int .i64 s.a.1).wf = true ∧ (Lit.int .i64 s.a.2).wf = true) ∧ ((Lit.int .i64 s.b.1).wf = true ∧ (Lit.int .i64 s.b.2).wf = true) ∧ ((Lit.int .i64 s.c.1).wf = true ∧ (Lit.int .i64 s.c.2).wf = true)
theorem cSeg : Tryz.prog.cellsOf 57 = 7 := by kernel_rfl
theorem cPoint : Tryz.prog.cellsOf 54 = 2 := by kernel_rfl
theorem cInt : Tryz.prog.cellsOf 3 = 1 := by kernel_rfl
theorem cArr : Tryz.prog.cellsOf 55 = 6 := by kernel_rfl

section
variable {H : Type} {enc : TypeId × Value → H} {w : World} {base : Nat} {spare : Nat → Bool} {held : Bool}
theorem point_open {fuel : Nat} {c0 c1 : Value} {y : DataW H × List MemPlace} (h : DataW.trod enc Tryz.prog w base spare held fuel 54 [c0, c1] = some y) :
    ∃ p : Int × Int, c0 = .int .i64 p.1 ∧ c1 = .int .i64 p.2 ∧ (Lit.int .i64 p.1).wf = true ∧ (Lit.int .i64 p.2).wf = true := by
  obtain ⟨y0, y1, n, -, -, h0, h1⟩ := trod_struct2 Tryz.underlying54 h
  simp only [cInt] at h0 h1
  obtain ⟨z0, e0, -, w0⟩ := DataW.trod_int Tryz.underlying3 h0
  obtain ⟨z1, e1, -, w1⟩ := DataW.trod_int Tryz.underlying3 h1
  simp at e0 e1
  exact ⟨(z0, z1), e0, e1, w0, w1⟩
theorem seg_open {fuel : Nat} {cs : List Value} {y : DataW H × List MemPlace} (h : DataW.trod enc Tryz.prog w base spare held fuel 57 cs = some y) : ∃ s : Seg, cs = s.cells ∧ Seg.wf s := by
  obtain ⟨y0, y1, n, -, hl, h0, h1⟩ := trod_struct2 Tryz.underlying57 h
  rw [cSeg] at hl
  simp only [cInt, cArr] at h0 h1
  match cs, hl with
  | [c0, c1, c2, c3, c4, c5, c6], _ =>
    obtain ⟨z0, e0, -, w0⟩ := DataW.trod_int Tryz.underlying3 h0
    simp at e0
    obtain ⟨xs, m, -, -, -, hx, ha⟩ := DataW.trod_array Tryz.underlying55 h1
    simp only [cPoint] at ha
    match xs, hx with
    | [x0, x1, x2], _ =>
      obtain ⟨p, p0, p1, pw0, pw1⟩ := point_open (by simpa using ha 0 (by decide))
      obtain ⟨q, q0, q1, qw0, qw1⟩ := point_open (by simpa using ha 1 (by decide))
      obtain ⟨r, r0, r1, rw0, rw1⟩ := point_open (by simpa using ha 2 (by decide))
      subst e0 p0 p1 q0 q1 r0 r1
      exact ⟨⟨z0, p, q, r⟩, rfl, w0, ⟨pw0, pw1⟩, ⟨qw0, qw1⟩, rw0, rw1⟩
end

/-- segments that came in -/
def SegIs (w : World) (a : Option Addr) (len cap : Nat) (l : List Seg) : Prop :=
  len ≤ cap ∧ cap ≤ 9223372036854775807 ∧ l.length = len ∧ (a = none → len = 0 ∧ cap = 0) ∧ (∀ s ∈ l, Seg.wf s) ∧
    (0 < len → ∃ b o, a = some ⟨b, o, none⟩ ∧ b < w.heap.size ∧ ∀ (i : Nat) (s : Seg) (j : Nat) (u : Value), l[i]? = some s → s.cells[j]? = some u → w.cell? ⟨b, o + i * 7 + j, none⟩ = some u)

theorem segIs_of {H : Type} {enc : TypeId × Value → H} {W : World} {a : Option Addr} {len cap : Nat} {d : DataW H} {p : List MemPlace}
    (h : DataW.Trod enc Tryz.prog W 0 (fun _ => true) true 41 (.slice a len cap) d p) : ∃ l, SegIs W a len cap l := by
  obtain ⟨fuel, hf⟩ := h
  rcases open_slice Tryz.underlying41 hf with ⟨hcs, _⟩ | ⟨x, l, c, m, n, D, Pl, hcs, _, hl, hm, hmm, _, hx⟩
  · simp [Value.cells] at hcs
    obtain ⟨rfl, rfl, rfl⟩ := hcs
    exact ⟨[], Nat.le_refl _, by decide, rfl, fun _ => ⟨rfl, rfl⟩, by simp, fun h => absurd h (by decide)⟩
  · simp [Value.cells] at hcs
    obtain ⟨rfl, rfl, rfl⟩ := hcs
    simp only [if_true] at hmm
    subst hmm
    simp only [cSeg] at hx
    have each : ∀ i, ∃ s : Seg, i < m → Seg.wf s ∧ ∀ j u, s.cells[j]? = some u → W.cell? ((x.add (i * 7)).add j) = some u := by
      intro i
      by_cases hi : i < m
      · obtain ⟨cs, hc, ht⟩ := hx i hi
        obtain ⟨s, rfl, hs⟩ := seg_open ht
        refine ⟨s, fun _ => ⟨hs, fun j u hu => ?_⟩⟩
        unfold World.cells? at hc
        rw [if_pos (Nat.zero_le _)] at hc
        have hj : j < 7 := by
          have := (List.getElem?_eq_some_iff.1 hu).1
          simpa [PathM.Seg.cells] using this
        have := mapM_some_get hc j j (by simp [hj])
        rw [this, hu]
      · exact ⟨⟨0, (0, 0), (0, 0), (0, 0)⟩, fun h => absurd h hi⟩
    obtain ⟨f, hf⟩ := Classical.axiomOfChoice each
    refine ⟨(List.range len).map f, hl, by unfold maxLen at hm; omega, by simp, (fun h => by cases h), ?_, ?_⟩
    · intro s hs
      simp only [List.mem_map, List.mem_range] at hs
      obtain ⟨i, hi, rfl⟩ := hs
      exact (hf i (by omega)).1
    · intro h0
      obtain ⟨b, o, sp⟩ := x
      have hc0 := (hf 0 (by omega)).2 0 _ rfl
      have hsp : sp = none := by
        have := World.cell?_spot hc0
        simpa [Addr.add] using this
      subst hsp
      rw [add_plain, add_plain] at hc0
      refine ⟨b, o, rfl, cell_lt hc0, fun i s j u hs hu => ?_⟩
      obtain ⟨hi, e⟩ := List.getElem?_eq_some_iff.1 hs
      simp at hi e
      subst e
      have := (hf i (by omega)).2 j u hu
      rwa [add_plain, add_plain] at this

end Go.Proofs.YtpellcdggaeppaaGreatDoor
