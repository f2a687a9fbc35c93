/- A slice of structs that came in: it is nil, or it leads to its elements' cells. No program in sight; no condition. A Set that came in by value, opened. No condition. -/
import Derived.Test.YtjdbefpfjhdmoaaDoorBase
import Derived.Deep.Slices
import Derived.ChangeSame
import Derived.OpenShut
import Derived.Test.YtjdbefpfjhdmoaaDoorRows
import Derived.Test.YtjdbefpfjhdmoaaDoorMatM2
section
namespace Go.Proofs.YtjdbefpfjhdmoaaDoor
open Go.ChangeShapes Go.WideShapes Go.RowKit Go.Deep
set_option linter.unusedVariables false

/-- elements of K cells each -/
def Sl {α : Type} (K : Nat) (cells : α → List Value) (w : World) (a : Option Addr) (len cap : Nat) (l : List α) : Prop :=
  len ≤ cap ∧ cap ≤ 9223372036854775807 ∧ l.length = len ∧ (a = none → len = 0 ∧ cap = 0) ∧
    (0 < len → ∃ b o, a = some ⟨b, o, none⟩ ∧ b < w.heap.size ∧ ∀ (i : Nat) (s : α) (j : Nat) (u : Value), l[i]? = some s → (cells s)[j]? = some u → w.cell? ⟨b, o + i * K + j, none⟩ = some u)

theorem trod_field {P : Program} {H : Type} {enc : TypeId × Value → H} {w : World} {base : Nat} {spare : Nat → Bool} {held : Bool} {t : TypeId} {fs : Array Field} {fuel : Nat} {cs : List Value} {x : DataW H × List MemPlace}
    (ht : P.underlying t = some (.struct fs)) (h : DataW.trod enc P w base spare held fuel t cs = some x) :
    ∃ n, cs.length = P.cellsOf t ∧ ∀ (i : Nat) (f : Field), fs[i]? = some f → ∃ y, DataW.trod enc P w base spare held n f.type ((cs.drop f.offset).take (P.cellsOf f.type)) = some y := by
  obtain ⟨xs, n, _, rfl, hl, hlen, hf⟩ := DataW.trod_struct ht h
  refine ⟨n, hl, fun i f hi => ?_⟩
  have hlt : i < xs.length := by rw [hlen]; exact (Array.getElem?_eq_some_iff.1 hi).1
  exact ⟨xs[i], by rw [hf i f hi, List.getElem?_eq_getElem hlt]⟩

theorem sl_of {α : Type} {P : Program} {H : Type} {enc : TypeId × Value → H} {W : World} {a : Option Addr} {len cap : Nat} {d : DataW H} {p : List MemPlace} {t e : TypeId} (dflt : α) (K : Nat) (cells : α → List Value) (WF : α → Prop)
    (hu : P.underlying t = some (.slice e)) (hK : P.cellsOf e = K) (h0K : 0 < K) (hlen : ∀ s, (cells s).length = K)
    (op : ∀ (base : Nat) (spare : Nat → Bool) (held : Bool) (fuel : Nat) (cs : List Value) (y : DataW H × List MemPlace), DataW.trod enc P W base spare held fuel e cs = some y → ∃ s, cs = cells s ∧ WF s)
    (h : DataW.Trod enc P W 0 (fun _ => true) true t (.slice a len cap) d p) : ∃ l, Sl K cells W a len cap l ∧ ∀ s ∈ l, WF s := by
  obtain ⟨fuel, hf⟩ := h
  rcases open_slice hu hf with ⟨hcs, _⟩ | ⟨x, l, c, m, n, D, Pl, hcs, _, hl, hm, hmm, _, hx⟩
  · simp [Value.cells] at hcs
    obtain ⟨rfl, rfl, rfl⟩ := hcs
    exact ⟨[], ⟨Nat.le_refl _, by decide, rfl, fun _ => ⟨rfl, rfl⟩, fun h => absurd h (by decide)⟩, by simp⟩
  · simp [Value.cells] at hcs
    obtain ⟨rfl, rfl, rfl⟩ := hcs
    simp only [if_true] at hmm
    subst hmm
    rw [hK] at hx
    have each : ∀ i, ∃ s : α, i < m → WF s ∧ ∀ j u, (cells s)[j]? = some u → W.cell? ((x.add (i * K)).add j) = some u := by
      intro i
      by_cases hi : i < m
      · obtain ⟨cs, hc, ht⟩ := hx i hi
        obtain ⟨s, rfl, hs⟩ := op _ _ _ _ _ _ ht
        refine ⟨s, fun _ => ⟨hs, fun j u hu => ?_⟩⟩
        unfold World.cells? at hc
        rw [if_pos (Nat.zero_le _)] at hc
        have hj : j < K := by
          have := (List.getElem?_eq_some_iff.1 hu).1
          rwa [hlen] at this
        have := mapM_some_get hc j j (by simp [hj])
        rw [this, hu]
      · exact ⟨dflt, fun h => absurd h hi⟩
    obtain ⟨f, hf⟩ := Classical.axiomOfChoice each
    refine ⟨(List.range len).map f, ⟨hl, by unfold maxLen at hm; omega, by simp, (fun h => by cases h), ?_⟩, ?_⟩
    · intro h0
      obtain ⟨b, o, sp⟩ := x
      have hk0 : 0 < (cells (f 0)).length := by rw [hlen]; exact h0K
      have hc0 := (hf 0 (by omega)).2 0 _ (List.getElem?_eq_getElem hk0)
      have hsp : sp = none := by
        have := World.cell?_spot hc0
        simpa [Addr.add] using this
      subst hsp
      rw [add_plain, add_plain] at hc0
      refine ⟨b, o, rfl, cell_lt hc0, fun i s j u hs hu => ?_⟩
      obtain ⟨hi, e⟩ := List.getElem?_eq_some_iff.1 hs
      simp at hi e
      subst e
      have := (hf i (by omega)).2 j u hu
      rwa [add_plain, add_plain] at this
    · intro s hs
      simp only [List.mem_map, List.mem_range] at hs
      obtain ⟨i, hi, rfl⟩ := hs
      exact (hf i (by omega)).1

end Go.Proofs.YtjdbefpfjhdmoaaDoor
end

section
namespace Go.Proofs.YtjdbefpfjhdmoaaDoor
open Go.ChangeShapes Go.WideShapes Go.RowKit Go.Deep
open Go.Proofs.YtjdbefpfjhdmoaaDoor.MatM (M6)
set_option linter.unusedVariables false

theorem svInt : Tryd.prog.cellsOf 3 = 1 := by kernel_rfl
theorem svM : Tryd.prog.cellsOf 22 = 6 := by kernel_rfl
theorem svB : Tryd.prog.cellsOf 4 = 1 := by kernel_rfl
theorem svU : Tryd.prog.cellsOf 5 = 1 := by kernel_rfl
theorem svPt : Tryd.prog.cellsOf 24 = 2 := by kernel_rfl
theorem svSet : Tryd.prog.cellsOf 26 = 18 := by kernel_rfl
section
variable {H : Type} {enc : TypeId × Value → H} {W : World} {base : Nat} {spare : Nat → Bool} {held : Bool}
theorem m6_open {fuel : Nat} {c0 c1 c2 c3 c4 c5 : Value} {y : DataW H × List MemPlace} (h : DataW.trod enc Tryd.prog W base spare held fuel 22 [c0, c1, c2, c3, c4, c5] = some y) :
    ∃ m : M6, c0 = .int .i64 m.a ∧ c1 = .int .i64 m.b ∧ c2 = .int .i64 m.c ∧ c3 = .int .i64 m.d ∧ c4 = .int .i64 m.x ∧ c5 = .int .i64 m.y := by
  obtain ⟨xs, k, -, -, -, hx, ha⟩ := DataW.trod_array Tryd.underlying22 h
  simp only [svInt] at ha
  match xs, hx with
  | [x0, x1, x2, x3, x4, x5], _ =>
    obtain ⟨z2, e2, -, -⟩ := DataW.trod_int Tryd.underlying3 (by simpa using ha 0 (by decide))
    obtain ⟨z3, e3, -, -⟩ := DataW.trod_int Tryd.underlying3 (by simpa using ha 1 (by decide))
    obtain ⟨z4, e4, -, -⟩ := DataW.trod_int Tryd.underlying3 (by simpa using ha 2 (by decide))
    obtain ⟨z5, e5, -, -⟩ := DataW.trod_int Tryd.underlying3 (by simpa using ha 3 (by decide))
    obtain ⟨z6, e6, -, -⟩ := DataW.trod_int Tryd.underlying3 (by simpa using ha 4 (by decide))
    obtain ⟨z7, e7, -, -⟩ := DataW.trod_int Tryd.underlying3 (by simpa using ha 5 (by decide))
    simp at e2 e3 e4 e5 e6 e7
    exact ⟨⟨z2, z3, z4, z5, z6, z7⟩, e2, e3, e4, e5, e6, e7⟩
theorem pt_open {fuel : Nat} {c0 c1 : Value} {y : DataW H × List MemPlace} (h : DataW.trod enc Tryd.prog W base spare held fuel 24 [c0, c1] = some y) :
    ∃ x z : Int, c0 = .int .i64 x ∧ c1 = .int .i64 z := by
  obtain ⟨n2, hl2, hF2⟩ := trod_field Tryd.underlying24 h
  obtain ⟨p0, g0⟩ := hF2 0 _ rfl
  obtain ⟨p1, g1⟩ := hF2 1 _ rfl
  simp [svInt] at g0 g1
  obtain ⟨z9, e9, -, w9⟩ := DataW.trod_int Tryd.underlying3 g0
  obtain ⟨z10, e10, -, w10⟩ := DataW.trod_int Tryd.underlying3 g1
  simp at e9 e10
  exact ⟨z9, z10, e9, e10⟩
end
theorem setV_agg {H : Type} {enc : TypeId × Value → H} {W : World} {v : Value} {d : DataW H} {p : List MemPlace}
    (h : DataW.Trod enc Tryd.prog W 0 (fun _ => true) true 26 v d p) : ∃ cs, v = .agg cs := by
  obtain ⟨fuel, hf⟩ := h
  obtain ⟨n, hl, -⟩ := trod_field Tryd.underlying26 hf
  rw [svSet] at hl
  clear hf
  cases v <;> first | exact ⟨_, rfl⟩ | (simp [Value.cells] at hl)
set_option maxRecDepth 8000 in
theorem setV_of {H : Type} {enc : TypeId × Value → H} {W : World} {cs : Array Value} {d : DataW H} {p : List MemPlace}
    (h : DataW.Trod enc Tryd.prog W 0 (fun _ => true) true 26 (.agg cs) d p) :
    ∃ (ct fx : M6) (ft x y : Int) (pl dk : Bool) (sg : Int), cs = #[.int .i64 ct.a, .int .i64 ct.b, .int .i64 ct.c, .int .i64 ct.d, .int .i64 ct.x, .int .i64 ct.y, .int .i64 fx.a, .int .i64 fx.b, .int .i64 fx.c, .int .i64 fx.d, .int .i64 fx.x, .int .i64 fx.y, .int .i64 ft, .int .i64 x, .int .i64 y, .bool pl, .bool dk, .int .u8 sg] ∧ 0 ≤ sg := by
  obtain ⟨fuel, hf⟩ := h
  obtain ⟨l⟩ := cs
  obtain ⟨n, hl, hF⟩ := trod_field Tryd.underlying26 (show DataW.trod enc Tryd.prog W 0 (fun _ => true) true fuel 26 l = some (d, p) from hf)
  clear hf
  rw [svSet] at hl
  match l, hl with
  | [c0, c1, c2, c3, c4, c5, c6, c7, c8, c9, c10, c11, c12, c13, c14, c15, c16, c17], _ =>
    obtain ⟨y0, h0⟩ := hF 0 _ rfl
    obtain ⟨y1, h1⟩ := hF 1 _ rfl
    obtain ⟨y2, h2⟩ := hF 2 _ rfl
    obtain ⟨y3, h3⟩ := hF 3 _ rfl
    obtain ⟨y4, h4⟩ := hF 4 _ rfl
    obtain ⟨y5, h5⟩ := hF 5 _ rfl
    obtain ⟨y6, h6⟩ := hF 6 _ rfl
    simp [svInt, svM, svB, svU, svPt] at h0 h1 h2 h3 h4 h5 h6
    obtain ⟨ct, e0, e1, e2, e3, e4, e5⟩ := m6_open h0
    obtain ⟨fx, e6, e7, e8, e9, e10, e11⟩ := m6_open h1
    obtain ⟨ft, e12, -, -⟩ := DataW.trod_int Tryd.underlying3 h2
    obtain ⟨x, y, e13, e14⟩ := pt_open h3
    obtain ⟨pl, e15, -⟩ := DataW.trod_bool Tryd.underlying4 h4
    obtain ⟨dk, e16, -⟩ := DataW.trod_bool Tryd.underlying4 h5
    obtain ⟨sg, e17, -, wf⟩ := DataW.trod_int Tryd.underlying5 h6
    simp at e12 e15 e16 e17
    subst e0 e1 e2 e3 e4 e5 e6 e7 e8 e9 e10 e11 e12 e13 e14 e15 e16 e17
    exact ⟨ct, fx, ft, x, y, pl, dk, sg, rfl, (bounds_u8 wf).1⟩

end Go.Proofs.YtjdbefpfjhdmoaaDoor
end
