/- An object that came in by value, opened. No condition. -/
import Derived.Test.YtakickodehebmaaDoorRows
import Derived.Test.YtakickodehebmaaDoorBase
import Derived.WideShapes
import Derived.KernelRfl
namespace Go.Proofs.YtakickodehebmaaDoor

section
variable {P : Program} {w : World} {r : Reach} {base : Nat}
theorem cell_int {t : TypeId} {c : Value} (ht : P.underlying t = some (.int .i64)) (h : Cell.okWide P w r base t c) : ∃ n : Int, c = .int .i64 n ∧ (Lit.int .i64 n).wf = true := by
  unfold Cell.okWide Cell.ok at h
  rw [ht] at h
  cases c <;> simp_all [Lit.wf, IntKind.has]
theorem cell_bool {t : TypeId} {c : Value} (ht : P.underlying t = some .bool) (h : Cell.okWide P w r base t c) : ∃ b : Bool, c = .bool b := by
  unfold Cell.okWide Cell.ok at h
  rw [ht] at h
  cases c <;> simp_all
theorem cell_string {t : TypeId} {c : Value} (ht : P.underlying t = some .string) (h : Cell.okWide P w r base t c) : ∃ s : ByteArray, c = .string s ∧ (s.size : Int) ≤ IntKind.i64.max := by
  unfold Cell.okWide Cell.ok at h
  rw [ht] at h
  cases c <;> simp_all
theorem obj_open {t i b s : TypeId} {fs : Array Field} {v : Value} (hu : P.underlying t = some (.struct fs)) (ht : P.cellTypes P.depth t = some [i, b, i, i, s, i, i, i]) (hc : P.cellsOf t = 8)
    (hi : P.underlying i = some (.int .i64)) (hb : P.underlying b = some .bool) (hs : P.underlying s = some .string) (h : Value.okWide P w r base t v) :
    ∃ (kind : Int) (exec : Bool) (acc N : Int) (name : ByteArray) (ref frm ln : Int), v = .agg #[.int .i64 kind, .bool exec, .int .i64 acc, .int .i64 N, .string name, .int .i64 ref, .int .i64 frm, .int .i64 ln] ∧
      ((Lit.int .i64 kind).wf = true ∧ (Lit.int .i64 acc).wf = true ∧ (Lit.int .i64 N).wf = true ∧ (name.size : Int) ≤ IntKind.i64.max ∧ (Lit.int .i64 ref).wf = true ∧ (Lit.int .i64 frm).wf = true ∧ (Lit.int .i64 ln).wf = true) := by
  unfold Value.okWide at h
  rw [hu] at h
  obtain ⟨cs, rfl, hsz, ts, hts, -, hrow⟩ := h
  rw [ht] at hts
  injection hts with hts
  subst hts
  rw [hc] at hsz
  obtain ⟨l⟩ := cs
  match l, hsz with
  | [c0, c1, c2, c3, c4, c5, c6, c7], _ =>
    obtain ⟨_, e0, h0⟩ := hrow 0 c0 rfl
    obtain ⟨_, e1, h1⟩ := hrow 1 c1 rfl
    obtain ⟨_, e2, h2⟩ := hrow 2 c2 rfl
    obtain ⟨_, e3, h3⟩ := hrow 3 c3 rfl
    obtain ⟨_, e4, h4⟩ := hrow 4 c4 rfl
    obtain ⟨_, e5, h5⟩ := hrow 5 c5 rfl
    obtain ⟨_, e6, h6⟩ := hrow 6 c6 rfl
    obtain ⟨_, e7, h7⟩ := hrow 7 c7 rfl
    injection e0 with e0; injection e1 with e1; injection e2 with e2; injection e3 with e3; injection e4 with e4; injection e5 with e5; injection e6 with e6; injection e7 with e7
    subst e0 e1 e4
    subst e2 e3 e5 e6 e7
    obtain ⟨z0, rfl, w0⟩ := cell_int hi h0
    obtain ⟨z1, rfl⟩ := cell_bool hb h1
    obtain ⟨z2, rfl, w2⟩ := cell_int hi h2
    obtain ⟨z3, rfl, w3⟩ := cell_int hi h3
    obtain ⟨z4, rfl, w4⟩ := cell_string hs h4
    obtain ⟨z5, rfl, w5⟩ := cell_int hi h5
    obtain ⟨z6, rfl, w6⟩ := cell_int hi h6
    obtain ⟨z7, rfl, w7⟩ := cell_int hi h7
    exact ⟨z0, z1, z2, z3, z4, z5, z6, z7, rfl, w0, w2, w3, w4, w5, w6, w7⟩
end
theorem objTypes : Tryd.prog.cellTypes Tryd.prog.depth 38 = some [3, 4, 3, 3, 9, 3, 3, 3] := by kernel_rfl
theorem objCells : Tryd.prog.cellsOf 38 = 8 := by kernel_rfl
theorem objUnder : Tryd.prog.underlying 38 = some (.struct (Tryd.prog.fieldsOf 38)) := by kernel_rfl
theorem obj_wide {w : World} {r : Reach} {base : Nat} {v : Value} (h : Unit → Value.okWide Tryd.prog w r base 38 v) :
    ∃ (kind : Int) (exec : Bool) (acc N : Int) (name : ByteArray) (ref frm ln : Int), v = .agg #[.int .i64 kind, .bool exec, .int .i64 acc, .int .i64 N, .string name, .int .i64 ref, .int .i64 frm, .int .i64 ln] ∧
      ((Lit.int .i64 kind).wf = true ∧ (Lit.int .i64 acc).wf = true ∧ (Lit.int .i64 N).wf = true ∧ (name.size : Int) ≤ IntKind.i64.max ∧ (Lit.int .i64 ref).wf = true ∧ (Lit.int .i64 frm).wf = true ∧ (Lit.int .i64 ln).wf = true) := by
  have e := @obj_open Tryd.prog w r base 38 3 4 9 (Tryd.prog.fieldsOf 38) v objUnder objTypes objCells Tryd.underlying3 Tryd.underlying4 Tryd.underlying9
  generalize Tryd.prog = P at h e
  exact e (h ())

end Go.Proofs.YtakickodehebmaaDoor
