/- A path in memory, and what its last segment is. Segments are added to a path. A path is drawn on. Line, Curve, Close, and what a nil path returns. A path's copy, its segments, where it is, and an empty one. -/
import Derived.Test.YtpellcdggaeppaaGreatDoorPathW
import Derived.BigQuiet
import Derived.Deep.QuietTactic
import Derived.Test.YtpellcdggaeppaaGreatDoorArgs
import Derived.Deep.AppendLies
import Derived.Deep.RegionHeld3
import Derived.Maps.AppendAt
import Derived.Lib.SliceRun
section
namespace Go.Proofs.YtpellcdggaeppaaGreatDoor.Path
open Go.ChangeShapes Go.WideShapes Go.ChangeAt Go.RowKit
open Go.Proofs.YtpellcdggaeppaaGreatDoor.FixM (fits)
open Go.Proofs.YtpellcdggaeppaaGreatDoor.PathM
set_option linter.unusedVariables false
set_option linter.unusedSimpArgs false

/-- segments that a slice owns -/
abbrev Segs (w : World) (v : Value) (l : List Seg) : Prop := w.ownsRow 0 57 7 v l.length (segCells l)
def own (v : Value) : List Nat := match v.ownBlock with | some g => [g] | none => []
theorem own_mem {v : Value} {g : Nat} (h : v.ownBlock = some g) : g ∈ own v := by simp [own, h]
theorem own_of {v : Value} {g : Nat} (h : g ∈ own v) : v.ownBlock = some g := by
  unfold own at h
  split at h
  · simp only [List.mem_singleton] at h; subst h; assumption
  · simp at h
theorem Segs.form {w : World} {v : Value} {l : List Seg} (h : Segs w v l) : (v = .slice none 0 0 ∧ l = []) ∨ ∃ g cap, v = .slice (some ⟨g, 0, none⟩) l.length cap ∧ l.length ≤ cap ∧ cap ≤ maxLen ∧ g < w.heap.size := by
  rcases h.2 with ⟨h1, h2⟩ | ⟨g, cap, cur, hv, _, hg, hn, hm, _⟩
  · exact Or.inl ⟨h1, List.eq_nil_of_length_eq_zero h2⟩
  · exact Or.inr ⟨g, cap, hv, hn, hm, (Array.getElem?_eq_some_iff.1 hg).1⟩
theorem Segs.at {w : World} {g cap : Nat} {l : List Seg} (h : Segs w (.slice (some ⟨g, 0, none⟩) l.length cap) l) (i : Nat) (s : Seg) (hi : l[i]? = some s) (j : Nat) (hj : j < 7) (u : Value) (hu : s.cells[j]? = some u) :
    w.cell? ⟨g, i * 7 + j, none⟩ = some u := by
  have h1 : i < l.length := (List.getElem?_eq_some_iff.1 hi).1
  rw [h.cellAt (i * 7 + j) (by omega), segCells_at l i s j hi hj, hu]
theorem Segs.free {w : World} {g cap : Nat} {l : List Seg} (h : Segs w (.slice (some ⟨g, 0, none⟩) l.length cap) l) (i : Nat) : w.frozen? ⟨g, i, none⟩ = false := h.frozenAt i
theorem Segs.chg {S : List Nat} {w w1 : World} {v : Value} {l : List Seg} (h : Segs w v l) (hc : Chg S w w1) (hn : ∀ g, v.ownBlock = some g → g ∉ S) : Segs w1 v l := by
  refine ⟨h.1, ?_⟩
  rcases h.2 with h1 | ⟨g, cap, cur, hv, hb, hg, hr⟩
  · exact Or.inl h1
  · refine Or.inr ⟨g, cap, cur, hv, hb, ?_, hr⟩
    rw [hc.block g (Array.getElem?_eq_some_iff.1 hg).1 (hn g (by rw [hv]; rfl))]
    exact hg

/-- a path in memory -/
structure PathIs (w : World) (b : Nat) (v : Value) (t : St) : Prop where
  row : Row w b #[.int .i64 t.most, v, .int .i64 t.s.1, .int .i64 t.s.2, .int .i64 t.n.1, .int .i64 t.n.2]
  segs : Segs w v t.l
  len : t.l.length ≤ 100000000
/-- its slice's block is another one -/
theorem PathIs.apart {w : World} {b : Nat} {v : Value} {t : St} (h : PathIs w b v t) : ∀ g, v.ownBlock = some g → g ≠ b := by
  intro g hg e
  obtain ⟨ty, hb⟩ := h.row
  rcases h.segs.2 with ⟨h1, _⟩ | ⟨g', cap, cur, hv, _, hg', _, _, hs, _⟩
  · rw [h1] at hg; cases hg
  · rw [hv] at hg
    simp only [Value.ownBlock, Option.some.injEq] at hg
    subst hg e
    rw [hb] at hg'
    simp only [Option.some.injEq, Obj.cells.injEq] at hg'
    have := hg'.1
    subst this
    simp at hs
    omega
theorem PathIs.chg {S : List Nat} {w w1 : World} {b : Nat} {v : Value} {t : St} (h : PathIs w b v t) (hc : Chg S w w1) (hb : b ∉ S) (hn : ∀ g, v.ownBlock = some g → g ∉ S) : PathIs w1 b v t :=
  ⟨h.row.chg hc hb, h.segs.chg hc hn, h.len⟩
theorem PathIs.up {w w1 : World} {b : Nat} {v : Value} {t : St} (h : PathIs w b v t) (hc : Up w w1) : PathIs w1 b v t := h.chg (S := []) (Chg.of_up hc) (by simp) (by simp)

theorem PathIs.form {w : World} {b : Nat} {v : Value} {t : St} (h : PathIs w b v t) : ∃ ao cap, v = .slice ao t.l.length cap := by
  rcases h.segs.form with ⟨rfl, hl⟩ | ⟨g, cap, rfl, _⟩
  · exact ⟨none, 0, by rw [hl]; rfl⟩
  · exact ⟨_, _, rfl⟩
/-- a slice's block is the old one, or a new one -/
def Own (w : World) (v v' : Value) : Prop := ∀ g, v'.ownBlock = some g → v.ownBlock = some g ∨ w.heap.size ≤ g
theorem Own.refl (w : World) (v : Value) : Own w v v := fun g h => Or.inl h
theorem Chg.grown {S : List Nat} {w a c : World} {r : Option Nat} (h : Chg S w a) (hg : a.grownBy c r) (hr : ∀ k, r = some k → k ∈ S ∨ w.heap.size ≤ k) : Chg S w c :=
  ⟨hg.os.trans h.os, hg.tape.trans h.tape, hg.output.trans h.output, Nat.le_trans h.size hg.size, fun k hk hn => by
    rw [hg.block k (Nat.lt_of_lt_of_le hk h.size) (fun e => (hr k e.symm).elim hn (fun h2 => by omega)), h.block k hk hn]⟩

end Go.Proofs.YtpellcdggaeppaaGreatDoor.Path
end

section
namespace Go.Proofs.YtpellcdggaeppaaGreatDoor.Path
open Go.ChangeShapes Go.WideShapes Go.ChangeAt Go.RowKit
open Go.Proofs.YtpellcdggaeppaaGreatDoor.FixM (fits)
open Go.Proofs.YtpellcdggaeppaaGreatDoor.PathM
set_option linter.unusedVariables false
set_option linter.unusedSimpArgs false

theorem infoSeg : (Tryz.prog.info? 57).map (fun i => (i.zero, i.size, i.bytes)) = some (some (.agg #[.int .i64 0, .int .i64 0, .int .i64 0, .int .i64 0, .int .i64 0, .int .i64 0, .int .i64 0]), 7, 56) := by kernel_rfl

end Go.Proofs.YtpellcdggaeppaaGreatDoor.Path
end

section
namespace Go.Proofs.YtpellcdggaeppaaGreatDoor.Path
open Go.ChangeShapes Go.WideShapes Go.ChangeAt Go.RowKit
open Go.Proofs.YtpellcdggaeppaaGreatDoor.FixM (fits)
open Go.Proofs.YtpellcdggaeppaaGreatDoor.PathM
set_option linter.unusedVariables false
set_option linter.unusedSimpArgs false

end Go.Proofs.YtpellcdggaeppaaGreatDoor.Path
end

section
namespace Go.Proofs.YtpellcdggaeppaaGreatDoor.Path
open Go.ChangeShapes Go.WideShapes Go.ChangeAt Go.RowKit
open Go.Proofs.YtpellcdggaeppaaGreatDoor.FixM (fits)
open Go.Proofs.YtpellcdggaeppaaGreatDoor.PathM
set_option linter.unusedVariables false
set_option linter.unusedSimpArgs false

theorem pts1 {w : World} {g : Nat} {x y : Int} (h : Row w g #[.int .i64 x, .int .i64 y]) : Pts w g 0 [(x, y)] := fun i p hp => by
  match i, hp with
  | 0, hp =>
    simp at hp
    subst hp
    exact ⟨h.cell 0 rfl, h.cell 1 rfl⟩
theorem pts3 {w : World} {g : Nat} {a b c d e f : Int} (h : Row w g #[.int .i64 a, .int .i64 b, .int .i64 c, .int .i64 d, .int .i64 e, .int .i64 f]) : Pts w g 0 [(a, b), (c, d), (e, f)] := fun i p hp => by
  match i, hp with
  | 0, hp =>
    simp at hp
    subst hp
    exact ⟨h.cell 0 rfl, h.cell 1 rfl⟩
  | 1, hp =>
    simp at hp
    subst hp
    exact ⟨h.cell 2 rfl, h.cell 3 rfl⟩
  | 2, hp =>
    simp at hp
    subst hp
    exact ⟨h.cell 4 rfl, h.cell 5 rfl⟩
theorem fits_calls2 (l : List Pt) (m g c : Nat) (cs : Array Value) (w : World) (hm : l.length = m) (hl : m ≤ 1000000000) (h : Row w g cs) (hp : Row w g cs → Pts w g 0 l) :
    Calls Tryz.prog 114 #[.slice (some ⟨g, 0, none⟩) m c] w fun e w' => e = .returned (.bool (l.all fitsP)) ∧ Up w w' := by
  subst hm
  exact fits_calls l g 0 c w hl (hp h) h.lt

end Go.Proofs.YtpellcdggaeppaaGreatDoor.Path
end

section
namespace Go.Proofs.YtpellcdggaeppaaGreatDoor.Path
open Go.ChangeShapes Go.WideShapes Go.ChangeAt Go.RowKit
open Go.Proofs.YtpellcdggaeppaaGreatDoor.FixM (fits)
open Go.Proofs.YtpellcdggaeppaaGreatDoor.PathM
set_option linter.unusedVariables false
set_option linter.unusedSimpArgs false

end Go.Proofs.YtpellcdggaeppaaGreatDoor.Path
end
