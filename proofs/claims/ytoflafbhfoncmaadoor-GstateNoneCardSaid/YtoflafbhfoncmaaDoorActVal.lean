/- An act that came in by value, opened. No condition. -/
import Derived.Test.YtoflafbhfoncmaaDoorSlArg
import Derived.Test.YtoflafbhfoncmaaDoorRows
import Derived.Test.YtoflafbhfoncmaaDoorMatM2
namespace Go.Proofs.YtoflafbhfoncmaaDoor
open Go.ChangeShapes Go.WideShapes Go.RowKit Go.Deep
open Go.Proofs.YtoflafbhfoncmaaDoor.MatM (M6)
set_option linter.unusedVariables false

theorem avInt : Tryd.prog.cellsOf 3 = 1 := by kernel_rfl
theorem avM : Tryd.prog.cellsOf 26 = 6 := by kernel_rfl
theorem avSl : Tryd.prog.cellsOf 27 = 1 := by kernel_rfl
theorem avPt : Tryd.prog.cellsOf 29 = 2 := by kernel_rfl
theorem avAct : Tryd.prog.cellsOf 31 = 11 := by kernel_rfl
theorem actV_agg {H : Type} {enc : TypeId × Value → H} {W : World} {v : Value} {d : DataW H} {p : List MemPlace}
    (h : DataW.Trod enc Tryd.prog W 0 (fun _ => true) true 31 v d p) : ∃ cs, v = .agg cs := by
  obtain ⟨fuel, hf⟩ := h
  obtain ⟨n, hl, -⟩ := trod_field Tryd.underlying31 hf
  rw [avAct] at hl
  clear hf
  cases v <;> first | exact ⟨_, rfl⟩ | (simp [Value.cells] at hl)
set_option maxRecDepth 8000 in
theorem actV_of {H : Type} {enc : TypeId × Value → H} {W : World} {cs : Array Value} {d : DataW H} {p : List MemPlace}
    (h : DataW.Trod enc Tryd.prog W 0 (fun _ => true) true 31 (.agg cs) d p) :
    ∃ (D N : Int) (m : M6) (a : Option Addr) (len cap : Nat) (px py : Int) (zs : List Int), cs = #[.int .i64 D, .int .i64 N, .int .i64 m.a, .int .i64 m.b, .int .i64 m.c, .int .i64 m.d, .int .i64 m.x, .int .i64 m.y, .slice a len cap, .int .i64 px, .int .i64 py] ∧ IsRow .i64 W a len cap zs := by
  obtain ⟨fuel, hf⟩ := h
  obtain ⟨l⟩ := cs
  obtain ⟨n, hl, hF⟩ := trod_field Tryd.underlying31 (show DataW.trod enc Tryd.prog W 0 (fun _ => true) true fuel 31 l = some (d, p) from hf)
  clear hf
  rw [avAct] at hl
  match l, hl with
  | [c0, c1, c2, c3, c4, c5, c6, c7, c8, c9, c10], _ =>
    obtain ⟨y0, h0⟩ := hF 0 _ rfl
    obtain ⟨y1, h1⟩ := hF 1 _ rfl
    obtain ⟨y2, h2⟩ := hF 2 _ rfl
    obtain ⟨y3, h3⟩ := hF 3 _ rfl
    obtain ⟨y4, h4⟩ := hF 4 _ rfl
    simp [avInt, avM, avSl, avPt] at h0 h1 h2 h3 h4
    obtain ⟨z0, e0, -, w0⟩ := DataW.trod_int Tryd.underlying3 h0
    obtain ⟨z1, e1, -, w1⟩ := DataW.trod_int Tryd.underlying3 h1
    simp at e0 e1
    obtain ⟨xs, k, -, -, -, hx, ha⟩ := DataW.trod_array Tryd.underlying26 h2
    simp only [avInt] at ha
    obtain ⟨n2, hl2, hF2⟩ := trod_field Tryd.underlying29 h4
    obtain ⟨p0, g0⟩ := hF2 0 _ rfl
    obtain ⟨p1, g1⟩ := hF2 1 _ rfl
    simp [avInt] at g0 g1
    obtain ⟨z9, e9, -, w9⟩ := DataW.trod_int Tryd.underlying3 g0
    obtain ⟨z10, e10, -, w10⟩ := DataW.trod_int Tryd.underlying3 g1
    simp at e9 e10
    match xs, hx with
    | [x0, x1, x2, x3, x4, x5], _ =>
      obtain ⟨z2, e2, -, -⟩ := DataW.trod_int Tryd.underlying3 (by simpa using ha 0 (by decide))
      obtain ⟨z3, e3, -, -⟩ := DataW.trod_int Tryd.underlying3 (by simpa using ha 1 (by decide))
      obtain ⟨z4, e4, -, -⟩ := DataW.trod_int Tryd.underlying3 (by simpa using ha 2 (by decide))
      obtain ⟨z5, e5, -, -⟩ := DataW.trod_int Tryd.underlying3 (by simpa using ha 3 (by decide))
      obtain ⟨z6, e6, -, -⟩ := DataW.trod_int Tryd.underlying3 (by simpa using ha 4 (by decide))
      obtain ⟨z7, e7, -, -⟩ := DataW.trod_int Tryd.underlying3 (by simpa using ha 5 (by decide))
      simp at e2 e3 e4 e5 e6 e7
      obtain ⟨a, len, cap, e8⟩ : ∃ (a : Option Addr) (len cap : Nat), c8 = .slice a len cap := by
        rcases open_slice Tryd.underlying27 h3 with ⟨hcs, _⟩ | ⟨x, l, c, q, nn, D, Pl, hcs, _⟩
        · simp at hcs; exact ⟨_, _, _, hcs⟩
        · simp at hcs; exact ⟨_, _, _, hcs⟩
      subst e0 e1 e2 e3 e4 e5 e6 e7 e8 e9 e10
      obtain ⟨zs, hz⟩ := isRow_of (k := .i64) Tryd.underlying27 Tryd.underlying3 (by kernel_rfl) (show DataW.Trod enc Tryd.prog W 0 (fun _ => true) true 27 (.slice a len cap) y3.1 y3.2 from ⟨_, h3⟩)
      exact ⟨z0, z1, ⟨z2, z3, z4, z5, z6, z7⟩, a, len, cap, z9, z10, zs, rfl, hz⟩

end Go.Proofs.YtoflafbhfoncmaaDoor
