/- Points and segments are compared cell by cell. No condition. A slice of segments that came in. Which segments are sound. Two lists of segments are compared. The reference's Far; law 16's agree of an empty canvas. No condition. -/
import Derived.Test.YtjdbefpfjhdmoaaDoorFix
import Derived.Test.YtjdbefpfjhdmoaaDoorPathM
import Derived.ChangeKeysEq
import Derived.Laws.StructEq
import Derived.Test.YtjdbefpfjhdmoaaDoorArgs
import Derived.Deep.Slices
import Derived.ChangeSame
import Derived.OpenShut
import Derived.Test.YtjdbefpfjhdmoaaDoorPathW6
import Derived.Test.YtjdbefpfjhdmoaaDoorPathM2
import Derived.LoopN
import Derived.Test.YtjdbefpfjhdmoaaDoorGJ
import Derived.Deep.RegionHeld3
namespace Go.Proofs.YtjdbefpfjhdmoaaDoor.ZGG
open Go.ChangeShapes Go.WideShapes Go.ChangeAt Go.RowKit
theorem ra {w : World} {b : Nat} {cs : Array Value} (h : Row w b cs := by (repeat' (with_reducible first | assumption | (refine Row.at _ _ ?_; (simp; done)) | refine Row.alloc ?_ _ | refine Row.drew ?_ | refine Row.drewN ?_ _ | refine Row.other ?_ (by first | (simp; done) | (simp; omega) | omega) _ | refine Row.up ?_ (by assumption) | refine Row.chg ?_ (by assumption) (by first | (simp; done) | (simp; omega))))) : Row w b cs := h
theorem ua {w v : World} (h : Up w v := by (repeat' (first | (with_reducible first | exact Up.refl _ | assumption | refine Up.alloc ?_ _ | refine Up.drew ?_ | refine Up.drewN ?_ _ | refine Up.setCell ?_ ?_ _ | refine Up.call ?_ (by assumption)) | go_size))) : Up w v := h
theorem ro {w : World} {b : Nat} {cs : Array Value} (h : Row w b cs := by apply cast; (case h => (repeat (first | (with_reducible first | assumption | (apply Row.at; (simp; done)) | apply Row.alloc | apply Row.drew | apply Row.drewN | apply Row.set) | ((with_reducible apply Row.other); (case hp => first | (simp; done) | (simp; omega) | omega))))); (case e => rfl)) : Row w b cs := h
end Go.Proofs.YtjdbefpfjhdmoaaDoor.ZGG
section
namespace Go.Proofs.YtjdbefpfjhdmoaaDoor
open Go.RowKit
open Go.Proofs.YtjdbefpfjhdmoaaDoor.PathM
section
variable {P : Program}
/-- the fields, as far as a comparison asks for them -/
def eqRows (d : Nat) (xs ys : Array Value) : List (Bool × Nat × TypeId) → Sem Bool
  | [] => pure true
  | (n, off, t) :: fs =>
    if n = true then do
      let a ← part t xs off
      let b ← part t ys off
      let r ← Op.equalIn d t a b
      if (!r) = true then pure false else eqRows d xs ys fs
    else eqRows d xs ys fs
theorem eqFields_rows (d : Nat) (xs ys : Array Value) : ∀ fs : List Field, Op.eqFields d xs ys fs = eqRows d xs ys (fs.map fun f => (f.name != "_", f.offset, f.type))
  | [] => rfl
  | f :: fs => by
    simp only [Op.eqFields, List.map_cons, eqRows, eqFields_rows d xs ys fs]
    by_cases h : f.name = "_"
    · simp [h]
    · simp [h]
theorem run_part_agg {t : TypeId} {d : TypeDesc} {i : TypeInfo} (hu : P.underlying t = some d) (hd : (match d with | .struct _ | .array _ _ => true | _ => false) = true) (hi : P.info? t = some i) (xs : Array Value) (off : Nat) (w : World) :
    (part t xs off).run P w = .ok (.agg (xs.extract off (off + P.cellsOf t))) w := by
  cases d <;> simp at hd <;> simp [part, isAgg, run_underlying hu, run_sizeOf w hi]
theorem row_of {d off : Nat} {t : TypeId} {xs ys : Array Value} {a b : Value} {r : Bool} {fs : List (Bool × Nat × TypeId)} {w : World} (ha : (part t xs off).run P w = .ok a w) (hb : (part t ys off).run P w = .ok b w) (he : (Op.equalIn d t a b).run P w = .ok r w) :
    (eqRows d xs ys ((true, off, t) :: fs)).run P w = bif r then (eqRows d xs ys fs).run P w else .ok false w := by
  simp only [eqRows, if_true, Sem.run_bind]
  rw [ha]
  simp only [Result.andThen_ok]
  rw [hb]
  simp only [Result.andThen_ok]
  rw [he]
  simp only [Result.andThen_ok]
  cases r <;> simp [Sem.run_pure]
theorem item_of {d : Nat} {t : TypeId} {c j : Nat} {is : List Nat} {xs ys : Array Value} {a b : Value} {r : Bool} {w : World} (ha : (part t xs (j * c)).run P w = .ok a w) (hb : (part t ys (j * c)).run P w = .ok b w) (he : (Op.equalIn d t a b).run P w = .ok r w) :
    (Op.eqItems d t c xs ys (j :: is)).run P w = bif r then (Op.eqItems d t c xs ys is).run P w else .ok false w := by
  simp only [Op.eqItems, Sem.run_bind]
  rw [ha]
  simp only [Result.andThen_ok]
  rw [hb]
  simp only [Result.andThen_ok]
  rw [he]
  simp only [Result.andThen_ok]
  cases r <;> simp [Sem.run_pure]
end
theorem eqsInt : Tryd.prog.plainKey 3 = true := by kernel_rfl
theorem eqsPt : (Tryd.prog.info? 24).isSome = true := by kernel_rfl
theorem eqsArr : (Tryd.prog.info? 95).isSome = true := by kernel_rfl
theorem eqsCPt : Tryd.prog.cellsOf 24 = 2 := by kernel_rfl
theorem eqsCArr : Tryd.prog.cellsOf 95 = 6 := by kernel_rfl
theorem eqsFPt : (Tryd.prog.fieldsOf 24).toList.map (fun f => (f.name != "_", f.offset, f.type)) = [(true, 0, 3), (true, 1, 3)] := by kernel_rfl
theorem eqsFSeg : (Tryd.prog.fieldsOf 97).toList.map (fun f => (f.name != "_", f.offset, f.type)) = [(true, 0, 3), (true, 1, 95)] := by kernel_rfl
theorem eqsUPt : Tryd.prog.underlying 24 = some (.struct (Tryd.prog.fieldsOf 24)) := by kernel_rfl
theorem eqsUSeg : Tryd.prog.underlying 97 = some (.struct (Tryd.prog.fieldsOf 97)) := by kernel_rfl
theorem eqsHPt : Tryd.prog.stoodInHeld 24 = false := by kernel_rfl
theorem eqsHSeg : Tryd.prog.stoodInHeld 97 = false := by kernel_rfl

theorem run_eqPt (d : Nat) (x y x' y' : Int) (w : World) :
    (Op.equalIn (d + 2) 24 (.agg #[.int .i64 x, .int .i64 y]) (.agg #[.int .i64 x', .int .i64 y'])).run Tryd.prog w = .ok ((x, y) == ((x', y') : Pt)) w := by
  rw [run_equalIn_struct w (d + 1) _ _ _ eqsUPt eqsHPt, eqFields_rows, eqsFPt]
  rw [row_of (run_part_plain w eqsInt rfl) (run_part_plain w eqsInt rfl) (run_equalIn_int w d _ _ .i64 x x' Tryd.underlying3)]
  rw [row_of (run_part_plain w eqsInt rfl) (run_part_plain w eqsInt rfl) (run_equalIn_int w d _ _ .i64 y y' Tryd.underlying3)]
  simp only [eqRows, Sem.run_pure]
  rw [show ((x, y) == ((x', y') : Pt)) = (x == x' && y == y') from rfl]
  cases (x == x') <;> cases (y == y') <;> rfl

theorem run_eqSeg (k x0 y0 x1 y1 x2 y2 k' x0' y0' x1' y1' x2' y2' : Int) (w : World) :
    (Op.equalIn 10000 97 (.agg #[.int .i64 k, .int .i64 x0, .int .i64 y0, .int .i64 x1, .int .i64 y1, .int .i64 x2, .int .i64 y2]) (.agg #[.int .i64 k', .int .i64 x0', .int .i64 y0', .int .i64 x1', .int .i64 y1', .int .i64 x2', .int .i64 y2'])).run Tryd.prog w
      = .ok (decide ((⟨k, (x0, y0), (x1, y1), (x2, y2)⟩ : Seg) = ⟨k', (x0', y0'), (x1', y1'), (x2', y2')⟩)) w := by
  obtain ⟨i, hi⟩ := Option.isSome_iff_exists.1 eqsPt
  obtain ⟨i', hi'⟩ := Option.isSome_iff_exists.1 eqsArr
  have arr : (Op.equalIn 9999 95 (.agg #[.int .i64 x0, .int .i64 y0, .int .i64 x1, .int .i64 y1, .int .i64 x2, .int .i64 y2]) (.agg #[.int .i64 x0', .int .i64 y0', .int .i64 x1', .int .i64 y1', .int .i64 x2', .int .i64 y2'])).run Tryd.prog w
      = .ok ((x0, y0) == ((x0', y0') : Pt) && ((x1, y1) == ((x1', y1') : Pt) && (x2, y2) == ((x2', y2') : Pt))) w := by
    rw [show (9999 : Nat) = 9998 + 1 from rfl, run_equalIn_array (w := w) 9998 _ _ Tryd.underlying95 hi, eqsCPt, show List.range 3 = [0, 1, 2] from rfl]
    have part0 : ∀ (a b c d e f : Value) (j : Nat) (g h : Value), (#[a, b, c, d, e, f] : Array Value).extract (j * 2) (j * 2 + 2) = #[g, h] → (part 24 #[a, b, c, d, e, f] (j * 2)).run Tryd.prog w = .ok (.agg #[g, h]) w := fun a b c d e f j g h e1 => by
      rw [run_part_agg Tryd.underlying24 rfl hi, eqsCPt, e1]
    rw [item_of (part0 _ _ _ _ _ _ 0 _ _ rfl) (part0 _ _ _ _ _ _ 0 _ _ rfl) (run_eqPt 9996 x0 y0 x0' y0' w)]
    rw [item_of (part0 _ _ _ _ _ _ 1 _ _ rfl) (part0 _ _ _ _ _ _ 1 _ _ rfl) (run_eqPt 9996 x1 y1 x1' y1' w)]
    rw [item_of (part0 _ _ _ _ _ _ 2 _ _ rfl) (part0 _ _ _ _ _ _ 2 _ _ rfl) (run_eqPt 9996 x2 y2 x2' y2' w)]
    simp only [Op.eqItems, Sem.run_pure]
    cases ((x0, y0) == ((x0', y0') : Pt)) <;> cases ((x1, y1) == ((x1', y1') : Pt)) <;> cases ((x2, y2) == ((x2', y2') : Pt)) <;> rfl
  have pt : ∀ (s a b c d e f : Value), (part 95 #[s, a, b, c, d, e, f] 1).run Tryd.prog w = .ok (.agg #[a, b, c, d, e, f]) w := fun s a b c d e f => by
    rw [run_part_agg Tryd.underlying95 rfl hi', eqsCArr]
    rfl
  rw [show (10000 : Nat) = 9999 + 1 from rfl, run_equalIn_struct w 9999 _ _ _ eqsUSeg eqsHSeg, eqFields_rows, eqsFSeg]
  rw [row_of (run_part_plain w eqsInt rfl) (run_part_plain w eqsInt rfl) (run_equalIn_int w 9998 _ _ .i64 k k' Tryd.underlying3)]
  rw [row_of (pt _ _ _ _ _ _ _) (pt _ _ _ _ _ _ _) arr]
  simp only [eqRows, Sem.run_pure]
  have e : decide ((⟨k, (x0, y0), (x1, y1), (x2, y2)⟩ : Seg) = ⟨k', (x0', y0'), (x1', y1'), (x2', y2')⟩) = (k == k' && ((x0, y0) == ((x0', y0') : Pt) && ((x1, y1) == ((x1', y1') : Pt) && (x2, y2) == ((x2', y2') : Pt)))) := by
    rw [Bool.eq_iff_iff]
    simp only [decide_eq_true_eq, Seg.mk.injEq, Bool.and_eq_true, beq_iff_eq]
  rw [e]
  cases (k == k') <;> cases ((x0, y0) == ((x0', y0') : Pt)) <;> cases ((x1, y1) == ((x1', y1') : Pt)) <;> cases ((x2, y2) == ((x2', y2') : Pt)) <;> rfl

end Go.Proofs.YtjdbefpfjhdmoaaDoor
end

section
namespace Go.Proofs.YtjdbefpfjhdmoaaDoor
open Go.ChangeShapes Go.WideShapes Go.RowKit Go.Deep
open Go.Proofs.YtjdbefpfjhdmoaaDoor.PathM (Seg)
set_option linter.unusedVariables false

def Seg.wf (s : Seg) : Prop := (Lit.int .i64 s.k).wf = true ∧ ((Lit.int .i64 s.a.1).wf = true ∧ (Lit.int .i64 s.a.2).wf = true) ∧ ((Lit.int .i64 s.b.1).wf = true ∧ (Lit.int .i64 s.b.2).wf = true) ∧ ((Lit.int .i64 s.c.1).wf = true ∧ (Lit.int .i64 s.c.2).wf = true)
theorem cSeg : Tryd.prog.cellsOf 97 = 7 := by kernel_rfl
theorem cPoint : Tryd.prog.cellsOf 24 = 2 := by kernel_rfl
theorem cInt : Tryd.prog.cellsOf 3 = 1 := by kernel_rfl
theorem cArr : Tryd.prog.cellsOf 95 = 6 := by kernel_rfl

section
variable {H : Type} {enc : TypeId × Value → H} {w : World} {base : Nat} {spare : Nat → Bool} {held : Bool}
theorem point_open {fuel : Nat} {c0 c1 : Value} {y : DataW H × List MemPlace} (h : DataW.trod enc Tryd.prog w base spare held fuel 24 [c0, c1] = some y) :
    ∃ p : Int × Int, c0 = .int .i64 p.1 ∧ c1 = .int .i64 p.2 ∧ (Lit.int .i64 p.1).wf = true ∧ (Lit.int .i64 p.2).wf = true := by
  obtain ⟨y0, y1, n, -, -, h0, h1⟩ := trod_struct2 Tryd.underlying24 h
  simp only [cInt] at h0 h1
  obtain ⟨z0, e0, -, w0⟩ := DataW.trod_int Tryd.underlying3 h0
  obtain ⟨z1, e1, -, w1⟩ := DataW.trod_int Tryd.underlying3 h1
  simp at e0 e1
  exact ⟨(z0, z1), e0, e1, w0, w1⟩
theorem seg_open {fuel : Nat} {cs : List Value} {y : DataW H × List MemPlace} (h : DataW.trod enc Tryd.prog w base spare held fuel 97 cs = some y) : ∃ s : Seg, cs = s.cells ∧ Seg.wf s := by
  obtain ⟨y0, y1, n, -, hl, h0, h1⟩ := trod_struct2 Tryd.underlying97 h
  rw [cSeg] at hl
  simp only [cInt, cArr] at h0 h1
  match cs, hl with
  | [c0, c1, c2, c3, c4, c5, c6], _ =>
    obtain ⟨z0, e0, -, w0⟩ := DataW.trod_int Tryd.underlying3 h0
    simp at e0
    obtain ⟨xs, m, -, -, -, hx, ha⟩ := DataW.trod_array Tryd.underlying95 h1
    simp only [cPoint] at ha
    match xs, hx with
    | [x0, x1, x2], _ =>
      obtain ⟨p, p0, p1, pw0, pw1⟩ := point_open (by simpa using ha 0 (by decide))
      obtain ⟨q, q0, q1, qw0, qw1⟩ := point_open (by simpa using ha 1 (by decide))
      obtain ⟨r, r0, r1, rw0, rw1⟩ := point_open (by simpa using ha 2 (by decide))
      subst e0 p0 p1 q0 q1 r0 r1
      exact ⟨⟨z0, p, q, r⟩, rfl, w0, ⟨pw0, pw1⟩, ⟨qw0, qw1⟩, rw0, rw1⟩
end

/-- segments that came in -/
def SegIs (w : World) (a : Option Addr) (len cap : Nat) (l : List Seg) : Prop :=
  len ≤ cap ∧ cap ≤ 9223372036854775807 ∧ l.length = len ∧ (a = none → len = 0 ∧ cap = 0) ∧ (∀ s ∈ l, Seg.wf s) ∧
    (0 < len → ∃ b o, a = some ⟨b, o, none⟩ ∧ b < w.heap.size ∧ ∀ (i : Nat) (s : Seg) (j : Nat) (u : Value), l[i]? = some s → s.cells[j]? = some u → w.cell? ⟨b, o + i * 7 + j, none⟩ = some u)

theorem segIs_of {H : Type} {enc : TypeId × Value → H} {W : World} {a : Option Addr} {len cap : Nat} {d : DataW H} {p : List MemPlace}
    (h : DataW.Trod enc Tryd.prog W 0 (fun _ => true) true 38 (.slice a len cap) d p) : ∃ l, SegIs W a len cap l := by
  obtain ⟨fuel, hf⟩ := h
  rcases open_slice Tryd.underlying38 hf with ⟨hcs, _⟩ | ⟨x, l, c, m, n, D, Pl, hcs, _, hl, hm, hmm, _, hx⟩
  · simp [Value.cells] at hcs
    obtain ⟨rfl, rfl, rfl⟩ := hcs
    exact ⟨[], Nat.le_refl _, by decide, rfl, fun _ => ⟨rfl, rfl⟩, by simp, fun h => absurd h (by decide)⟩
  · simp [Value.cells] at hcs
    obtain ⟨rfl, rfl, rfl⟩ := hcs
    simp only [if_true] at hmm
    subst hmm
    simp only [cSeg] at hx
    have each : ∀ i, ∃ s : Seg, i < m → Seg.wf s ∧ ∀ j u, s.cells[j]? = some u → W.cell? ((x.add (i * 7)).add j) = some u := by
      intro i
      by_cases hi : i < m
      · obtain ⟨cs, hc, ht⟩ := hx i hi
        obtain ⟨s, rfl, hs⟩ := seg_open ht
        refine ⟨s, fun _ => ⟨hs, fun j u hu => ?_⟩⟩
        unfold World.cells? at hc
        rw [if_pos (Nat.zero_le _)] at hc
        have hj : j < 7 := by
          have := (List.getElem?_eq_some_iff.1 hu).1
          simpa [PathM.Seg.cells] using this
        have := mapM_some_get hc j j (by simp [hj])
        rw [this, hu]
      · exact ⟨⟨0, (0, 0), (0, 0), (0, 0)⟩, fun h => absurd h hi⟩
    obtain ⟨f, hf⟩ := Classical.axiomOfChoice each
    refine ⟨(List.range len).map f, hl, by unfold maxLen at hm; omega, by simp, (fun h => by cases h), ?_, ?_⟩
    · intro s hs
      simp only [List.mem_map, List.mem_range] at hs
      obtain ⟨i, hi, rfl⟩ := hs
      exact (hf i (by omega)).1
    · intro h0
      obtain ⟨b, o, sp⟩ := x
      have hc0 := (hf 0 (by omega)).2 0 _ rfl
      have hsp : sp = none := by
        have := World.cell?_spot hc0
        simpa [Addr.add] using this
      subst hsp
      rw [add_plain, add_plain] at hc0
      refine ⟨b, o, rfl, cell_lt hc0, fun i s j u hs hu => ?_⟩
      obtain ⟨hi, e⟩ := List.getElem?_eq_some_iff.1 hs
      simp at hi e
      subst e
      have := (hf i (by omega)).2 j u hu
      rwa [add_plain, add_plain] at this

end Go.Proofs.YtjdbefpfjhdmoaaDoor
end

section
namespace Go.Proofs.YtjdbefpfjhdmoaaDoor.Path
open Go.ChangeShapes Go.WideShapes Go.ChangeAt Go.RowKit
open Go.Proofs.YtjdbefpfjhdmoaaDoor.FixM (fits)
open Go.Proofs.YtjdbefpfjhdmoaaDoor.PathM
set_option linter.unusedVariables false
set_option linter.unusedSimpArgs false

/-- segments that lie in a row -/
def SegAt (w : World) (b o : Nat) (l : List Seg) : Prop := ∀ (i : Nat) (s : Seg) (j : Nat) (u : Value), l[i]? = some s → s.cells[j]? = some u → w.cell? ⟨b, o + i * 7 + j, none⟩ = some u
/-- a slice of segments -/
def SegV (w : World) (v : Value) (l : List Seg) : Prop :=
  (∃ a cap, v = .slice a 0 cap ∧ l = []) ∨ ∃ b o cap, v = .slice (some ⟨b, o, none⟩) l.length cap ∧ 0 < l.length ∧ b < w.heap.size ∧ SegAt w b o l ∧ l.length ≤ 9223372036854775807
theorem SegAt.up {w w1 : World} {b o : Nat} {l : List Seg} (h : SegAt w b o l) (hb : b < w.heap.size) (hu : Up w w1) : SegAt w1 b o l := fun i s j u hs hj => (hu.cells.1 b _ hb).trans (h i s j u hs hj)
theorem SegAt.chg {S : List Nat} {w w1 : World} {b o : Nat} {l : List Seg} (h : SegAt w b o l) (hb : b < w.heap.size) (hu : Chg S w w1) (hn : b ∉ S) : SegAt w1 b o l := fun i s j u hs hj => (hu.cells.1 b _ hb hn).trans (h i s j u hs hj)
theorem SegV.up {w w1 : World} {v : Value} {l : List Seg} (h : SegV w v l) (hu : Up w w1) : SegV w1 v l := by
  rcases h with h | ⟨b, o, cap, h1, h2, h3, h4, h5⟩
  · exact Or.inl h
  · exact Or.inr ⟨b, o, cap, h1, h2, Nat.lt_of_lt_of_le h3 hu.size, h4.up h3 hu, h5⟩
theorem Segs.v {w : World} {v : Value} {l : List Seg} (h : Segs w v l) : SegV w v l := by
  rcases h.form with ⟨rfl, rfl⟩ | ⟨g, cap, rfl, h1, h2, h3⟩
  · exact Or.inl ⟨none, 0, rfl, rfl⟩
  · by_cases h0 : l.length = 0
    · have := List.eq_nil_of_length_eq_zero h0
      subst this
      exact Or.inl ⟨_, cap, rfl, rfl⟩
    · refine Or.inr ⟨g, 0, cap, rfl, by omega, h3, fun i s j u hs hj => ?_, by unfold maxLen at h2; omega⟩
      rw [Nat.zero_add]
      refine h.at i s hs j ?_ u hj
      have := (List.getElem?_eq_some_iff.1 hj).1
      simpa [PathM.Seg.cells] using this
theorem _root_.Go.Proofs.YtjdbefpfjhdmoaaDoor.SegIs.v {w : World} {a : Option Addr} {len cap : Nat} {l : List Seg} (h : SegIs w a len cap l) : SegV w (.slice a len cap) l := by
  obtain ⟨h1, h2, h3, h4, h5, h6⟩ := h
  subst h3
  by_cases h0 : l.length = 0
  · have := List.eq_nil_of_length_eq_zero h0
    subst this
    exact Or.inl ⟨a, cap, rfl, rfl⟩
  · obtain ⟨b, o, rfl, hb, hc⟩ := h6 (by omega)
    exact Or.inr ⟨b, o, cap, rfl, by omega, hb, hc, by omega⟩
theorem SegAt.seven {w : World} {b o : Nat} {l : List Seg} (h : SegAt w b o l) (i : Nat) (k x0 y0 x1 y1 x2 y2 : Int) (hi : l[i]? = some ⟨k, (x0, y0), (x1, y1), (x2, y2)⟩) :
    w.cell? ⟨b, o + i * 7, none⟩ = some (.int .i64 k) ∧ w.cell? ⟨b, o + i * 7 + 1, none⟩ = some (.int .i64 x0) ∧ w.cell? ⟨b, o + i * 7 + 2, none⟩ = some (.int .i64 y0) ∧ w.cell? ⟨b, o + i * 7 + 3, none⟩ = some (.int .i64 x1) ∧
    w.cell? ⟨b, o + i * 7 + 4, none⟩ = some (.int .i64 y1) ∧ w.cell? ⟨b, o + i * 7 + 5, none⟩ = some (.int .i64 x2) ∧ w.cell? ⟨b, o + i * 7 + 6, none⟩ = some (.int .i64 y2) :=
  ⟨h i _ 0 _ hi rfl, h i _ 1 _ hi rfl, h i _ 2 _ hi rfl, h i _ 3 _ hi rfl, h i _ 4 _ hi rfl, h i _ 5 _ hi rfl, h i _ 6 _ hi rfl⟩

theorem points_calls (k : Int) (w : World) : Calls Tryd.prog 101 #[.int .i64 k] w fun e w' => e = .returned (.int .i64 (points k)) ∧ w = w' := by
  by_cases h1 : k = 1
  · subst h1
    go_enter Tryd.func101, Tryd.ntmps101
    go_wp2
    go_ret
    exact ⟨rfl, rfl⟩
  by_cases h2 : k = 2
  · subst h2
    go_enter Tryd.func101, Tryd.ntmps101
    go_wp2
    go_ret
    exact ⟨rfl, rfl⟩
  by_cases h3 : k = 3
  · subst h3
    go_enter Tryd.func101, Tryd.ntmps101
    go_wp2
    go_ret
    exact ⟨rfl, rfl⟩
  by_cases h4 : k = 4
  · subst h4
    go_enter Tryd.func101, Tryd.ntmps101
    go_wp2
    go_ret
    exact ⟨rfl, rfl⟩
  have H := Lib.hid (show points k = -1 by simp [points, h1, h2, h3, h4])
  have d1 : (k == 1) = false := by simpa using h1
  have d2 : (k == 2) = false := by simpa using h2
  have d3 : (k == 3) = false := by simpa using h3
  have d4 : (k == 4) = false := by simpa using h4
  clear h1 h2 h3 h4
  go_enter Tryd.func101, Tryd.ntmps101
  go_wp2
  go_ret
  exact ⟨by rw [H.out]; rfl, rfl⟩

theorem follows_calls (k last : Int) (w : World) : Calls Tryd.prog 102 #[.int .i64 k, .int .i64 last] w fun e w' => e = .returned (.bool (follows k last)) ∧ w = w' := by
  by_cases h1 : k = 1
  · subst h1
    by_cases h2 : last = 1
    · subst h2
      have H := Lib.hid (show follows 1 1 = false from rfl)
      go_enter Tryd.func102, Tryd.ntmps102
      go_wp2
      go_ret
      exact ⟨by rw [H.out]; rfl, rfl⟩
    · have H := Lib.hid (show follows 1 last = true by simp [follows, h2])
      have d2 : (last != 1) = true := by simpa using h2
      clear h2
      go_enter Tryd.func102, Tryd.ntmps102
      go_wp2
      go_ret
      exact ⟨by rw [H.out]; rfl, rfl⟩
  · have d1 : (k == 1) = false := by simpa using h1
    by_cases h2 : last = 0
    · subst h2
      have H := Lib.hid (show follows k 0 = false by simp [follows, h1])
      clear h1
      go_enter Tryd.func102, Tryd.ntmps102
      go_wp2
      go_ret
      exact ⟨by rw [H.out]; rfl, rfl⟩
    · have d2 : (last != 0) = true := by simpa using h2
      by_cases h3 : last = 4
      · subst h3
        have H := Lib.hid (show follows k 4 = false by simp [follows, h1])
        clear h1
        go_enter Tryd.func102, Tryd.ntmps102
        go_wp2
        go_ret
        exact ⟨by rw [H.out]; rfl, rfl⟩
      · have d3 : (last != 4) = true := by simpa using h3
        have H := Lib.hid (show follows k last = true by simp [follows, h1, h2, h3])
        clear h1 h2 h3
        go_enter Tryd.func102, Tryd.ntmps102
        go_wp2
        go_ret
        exact ⟨by rw [H.out]; rfl, rfl⟩

end Go.Proofs.YtjdbefpfjhdmoaaDoor.Path
end

section
namespace Go.Proofs.YtjdbefpfjhdmoaaDoor.Path
open Go.Proofs.YtjdbefpfjhdmoaaDoor.ZGG
open Go.ChangeShapes Go.WideShapes Go.ChangeAt Go.RowKit
open Go.Proofs.YtjdbefpfjhdmoaaDoor.FixM (fits)
open Go.Proofs.YtjdbefpfjhdmoaaDoor.PathM
set_option linter.unusedVariables false
set_option linter.unusedSimpArgs false

theorem take_eq_step {l m : List Seg} {k : Nat} {s : Seg} (h : l.take k = m.take k) (h1 : l[k]? = some s) (h2 : m[k]? = some s) : l.take (k + 1) = m.take (k + 1) := by
  rw [take_succ_of h1, take_succ_of h2, h]

theorem same_calls (v1 v2 : Value) (l m : List Seg) (w : World) (h : SegV w v1 l) (h' : SegV w v2 m) :
    Calls Tryd.prog 15 #[v1, v2] w fun e w' => e = .returned (.bool (decide (l = m))) ∧ Up w w' := by
  by_cases hlen : l.length = m.length
  · rcases h with ⟨a, cap, rfl, rfl⟩ | ⟨b, o, cap, rfl, h0, hb, hs, hl⟩
    · obtain rfl : m = [] := List.eq_nil_of_length_eq_zero hlen.symm
      rcases h' with ⟨a', cap', rfl, -⟩ | ⟨b', o', cap', rfl, h0', hb', hs', hl'⟩
      · go_enter Tryd.func15, Tryd.ntmps15
        go_wp2
        refine wp_loop_rounds 1 ?_
        repeat any_goals (rw [rounds_succ]; go_wp2)
        go_ret
        exact ⟨rfl, by exact ua⟩
      · exact absurd h0' (by simp)
    · rcases h' with ⟨a', cap', rfl, rfl⟩ | ⟨b', o', cap', rfl, h0', hb', hs', hl'⟩
      · simp at hlen; subst hlen; simp at h0
      · have HS := Lib.hid hs
        have HS' := Lib.hid hs'
        rw [← hlen]
        have HL := Lib.hid hlen
        clear hs hs' hlen
        go_enter Tryd.func15, Tryd.ntmps15
        go_wp2
        go_loopw [5] (fun i wr => ∃ k : Nat, k ≤ l.length ∧ i = .int .i64 k ∧ l.take k = m.take k ∧ Up w wr) (fun i _ => l.length - (intOf i).toNat)
        case atStart => exact ⟨0, Nat.zero_le _, rfl, rfl, Up.refl _⟩
        case round =>
          obtain ⟨k, hk, rfl, hno, hup⟩ := hrel
          have HN := Lib.hid hno
          clear hno
          by_cases hlt : k < l.length
          · obtain ⟨kk, x0, y0, x1, y1, x2, y2, hg⟩ : ∃ kk x0 y0 x1 y1 x2 y2, l[k]? = some ⟨kk, (x0, y0), (x1, y1), (x2, y2)⟩ := ⟨_, _, _, _, _, _, _, List.getElem?_eq_getElem hlt⟩
            obtain ⟨kk', x0', y0', x1', y1', x2', y2', hg'⟩ : ∃ kk x0 y0 x1 y1 x2 y2, m[k]? = some ⟨kk, (x0, y0), (x1, y1), (x2, y2)⟩ := ⟨_, _, _, _, _, _, _, List.getElem?_eq_getElem (by have := HL.out; omega)⟩
            obtain ⟨c0, c1, c2, c3, c4, c5, c6⟩ := HS.out.seven k _ _ _ _ _ _ _ hg
            replace c0 := (hup.cells.1 b _ hb).trans c0
            replace c1 := (hup.cells.1 b _ hb).trans c1
            replace c2 := (hup.cells.1 b _ hb).trans c2
            replace c3 := (hup.cells.1 b _ hb).trans c3
            replace c4 := (hup.cells.1 b _ hb).trans c4
            replace c5 := (hup.cells.1 b _ hb).trans c5
            replace c6 := (hup.cells.1 b _ hb).trans c6
            obtain ⟨d0, d1, d2, d3, d4, d5, d6⟩ := HS'.out.seven k _ _ _ _ _ _ _ hg'
            replace d0 := (hup.cells.1 b' _ hb').trans d0
            replace d1 := (hup.cells.1 b' _ hb').trans d1
            replace d2 := (hup.cells.1 b' _ hb').trans d2
            replace d3 := (hup.cells.1 b' _ hb').trans d3
            replace d4 := (hup.cells.1 b' _ hb').trans d4
            replace d5 := (hup.cells.1 b' _ hb').trans d5
            replace d6 := (hup.cells.1 b' _ hb').trans d6
            have hz := hup.size
            obtain ⟨t, ht⟩ : ∃ t, decide ((⟨kk, (x0, y0), (x1, y1), (x2, y2)⟩ : Seg) = ⟨kk', (x0', y0'), (x1', y1'), (x2', y2')⟩) = t := ⟨_, rfl⟩
            have hq := run_eqSeg kk x0 y0 x1 y1 x2 y2 kk' x0' y0' x1' y1' x2' y2'
            rw [ht] at hq
            cases t
            · have HQ := Lib.hid (show decide (l = m) = false by
                rw [decide_eq_false_iff_not]
                rintro rfl
                rw [hg] at hg'
                rw [decide_eq_false_iff_not] at ht
                exact ht (Option.some.inj hg'))
              clear hg hg' ht
              go_wp2
              go_region
              go_wp2
              all_goals go_ret
              all_goals exact ⟨by rw [HQ.out]; rfl, by exact ua⟩
            · have HQ := Lib.hid (show l.take (k + 1) = m.take (k + 1) from take_eq_step HN.out hg (by rw [hg', ← of_decide_eq_true ht]))
              clear hg hg' ht
              go_wp2
              go_region
              go_wp2
              all_goals go_roundw
              case rel => exact ⟨k + 1, by omega, by go_num, HQ.out, by exact ua⟩
              case measure => simp [intOf]; omega
          · have HQ := Lib.hid (show decide (l = m) = true by
              have := HN.out
              have hl2 := HL.out
              rw [List.take_of_length_le (by omega), List.take_of_length_le (by omega)] at this
              exact decide_eq_true this)
            go_wp2
            go_ret
            exact ⟨by rw [HQ.out]; rfl, by exact ua⟩
  · have HQ := Lib.hid (show decide (l = m) = false by
      rw [decide_eq_false_iff_not]
      rintro rfl
      exact hlen rfl)
    have dl : ((l.length : Int) != (m.length : Int)) = true := by
      rw [bne_iff_ne]
      intro e
      exact hlen (by omega)
    clear hlen
    obtain ⟨a, cap, rfl⟩ : ∃ a cap, v1 = .slice a l.length cap := by
      rcases h with ⟨a, cap, rfl, rfl⟩ | ⟨b, o, cap, rfl, _⟩
      · exact ⟨a, cap, rfl⟩
      · exact ⟨_, cap, rfl⟩
    obtain ⟨a', cap', rfl⟩ : ∃ a cap, v2 = .slice a m.length cap := by
      rcases h' with ⟨a, cap, rfl, rfl⟩ | ⟨b, o, cap, rfl, _⟩
      · exact ⟨a, cap, rfl⟩
      · exact ⟨_, cap, rfl⟩
    clear h h'
    go_enter Tryd.func15, Tryd.ntmps15
    go_wp2
    go_ret
    exact ⟨by rw [HQ.out]; rfl, by exact ua⟩

end Go.Proofs.YtjdbefpfjhdmoaaDoor.Path
end

section
namespace Go.Proofs.YtjdbefpfjhdmoaaDoor.Sh
open Go.Proofs.YtjdbefpfjhdmoaaDoor.ZGG
open Go.ChangeShapes Go.WideShapes Go.ChangeAt Go.RowKit
open Go.Proofs.YtjdbefpfjhdmoaaDoor.Gs
open Go.Proofs.YtjdbefpfjhdmoaaDoor.FixM (fits rnd rndp)
open Go.Proofs.YtjdbefpfjhdmoaaDoor.MatM (M6 delta)
open Go.Proofs.YtjdbefpfjhdmoaaDoor.FontM Go.Proofs.YtjdbefpfjhdmoaaDoor.Font
open Go.Proofs.YtjdbefpfjhdmoaaDoor.PathM
set_option linter.unusedVariables false
set_option linter.unusedSimpArgs false

theorem rnd_thou {N : Int} (h : 0 ≤ N) : rnd N 1000 = thou N := by
  unfold rnd rndp thou
  rw [if_neg (by decide), Int.tdiv_eq_ediv_of_nonneg h, Int.tmod_eq_emod_of_nonneg h]
  by_cases h1 : 1000 ≤ 2 * (N % 1000)
  · rw [if_pos h1, if_pos h1]
  · rw [if_neg h1, if_neg h1, if_neg (by omega)]

set_option maxRecDepth 8000 in
set_option maxHeartbeats 2000000 in
theorem rfar_calls (b : Nat) (C : M6) (F : Int) (FM : M6) (dk : Bool) (n : Int) (vl v : Value) (zs : List Int) (w : World) (h : Row w b (rsC C F FM dk n vl)) (hv : Ints .u8 w v zs) (hl : zs.length ≤ 100000) :
    Calls Tryd.prog 9 #[.pointer (some ⟨b, 0, none⟩), v] w fun E w' => E = ptE (farR F FM zs) ∧ Up w w' := by
  have HV := Lib.hid hv
  have HR := Lib.hid h
  have hlt := h.lt
  have q17 : w.cell? ⟨b, 17, none⟩ = some (.int .i64 F) := h.cell 17 rfl
  clear hv h
  have hb := sumW_bound F zs
  obtain ⟨X, hX⟩ : ∃ X, sumW F zs = X := ⟨_, rfl⟩
  rw [hX] at hb
  have HX := Lib.hid hX
  obtain ⟨N, hN⟩ : ∃ N, X * 65536 = N := ⟨_, rfl⟩
  have hX0 : 0 ≤ X := hb.1
  have hX1 : X ≤ 200000000 := by omega
  have hN0 : 0 ≤ N := by omega
  have hN1 : N ≤ 13107200000000 := by omega
  have hE : farR F FM zs = (if fits (thou N) then delta FM.a FM.b FM.c FM.d (thou N) 0 else ((0, 0), 18)) := by unfold farR; rw [hX, hN]
  obtain ⟨Q, hQ⟩ : ∃ Q, thou N = Q := ⟨_, rfl⟩
  rw [hQ] at hE
  have HQ := Lib.hid ((rnd_thou hN0).trans hQ)
  obtain ⟨D, hD⟩ : ∃ D, delta FM.a FM.b FM.c FM.d Q 0 = D := ⟨_, rfl⟩
  rw [hD] at hE
  have HD := Lib.hid hD
  have HE := Lib.hid hE
  clear hX hb hE hD hQ
  cases hf : fits Q
  all_goals have HF := Lib.hid hf
  all_goals clear hf
  next =>
    have HE2 := Lib.hid (show farR F FM zs = ((0, 0), 18) by rw [HE.out, HF.out]; rfl)
    go_enter Tryd.func9, Tryd.ntmps9
    go_wp2_with (first
      | (go_at_call 30; ((with_reducible refine (rsum_calls F v zs _ (HV.out.up (by exact ua)) hl).mono ?_); rw [HX.out]; rintro E w1 ⟨rfl, hu1⟩; have z1 := hu1.size; (try simp at z1); have RP1 := Row.up (show Row _ w.heap.size #[.int .i64 0, .int .i64 0] by exact ra) hu1))
      | (go_at_call 29; ((with_reducible refine (Rfix.rounded_calls N 1000 _ (by decide) (by decide) (by decide) (by omega) (by omega)).mono ?_); rw [HQ.out]; rintro E w2 ⟨rfl, hu2⟩; have z2 := hu2.size; have RP2 := RP1.up hu2; have RS2 : Row w2 b (rsC C F FM dk n vl) := Row.up (Row.up (show Row _ b (rsC C F FM dk n vl) from HR.out.alloc _) hu1) hu2; have lb2 := RS2.lt; have w2m_18 : w2.cell? ⟨b, 18, none⟩ = some (.int .i64 FM.a) := RS2.cell 18 rfl; have w2m_19 : w2.cell? ⟨b, 19, none⟩ = some (.int .i64 FM.b) := RS2.cell 19 rfl; have w2m_20 : w2.cell? ⟨b, 20, none⟩ = some (.int .i64 FM.c) := RS2.cell 20 rfl; have w2m_21 : w2.cell? ⟨b, 21, none⟩ = some (.int .i64 FM.d) := RS2.cell 21 rfl; have w2m_22 : w2.cell? ⟨b, 22, none⟩ = some (.int .i64 FM.x) := RS2.cell 22 rfl; have w2m_23 : w2.cell? ⟨b, 23, none⟩ = some (.int .i64 FM.y) := RS2.cell 23 rfl; have p2_0 : w2.cell? ⟨w.heap.size, 0, none⟩ = some (.int .i64 0) := RP2.cell 0 rfl; have pf2_0 := RP2.free 0; have p2_1 : w2.cell? ⟨w.heap.size, 1, none⟩ = some (.int .i64 0) := RP2.cell 1 rfl; have pf2_1 := RP2.free 1))
      | (go_at_call 31; ((with_reducible refine (Rfix.fits_calls _ _).mono ?_); rw [HF.out]; rintro E w3 ⟨rfl, rfl⟩))
      | (go_at_call 32; ((with_reducible refine (Rmat.delta_calls FM.a FM.b FM.c FM.d FM.x FM.y _ 0 _).mono ?_); rw [HD.out]; rintro E w4 ⟨rfl, hu4⟩; have z4 := hu4.size; have RP4 := RP2.up hu4; have p4_0 : w4.cell? ⟨w.heap.size, 0, none⟩ = some (.int .i64 0) := RP4.cell 0 rfl; have pf4_0 := RP4.free 0; have p4_1 : w4.cell? ⟨w.heap.size, 1, none⟩ = some (.int .i64 0) := RP4.cell 1 rfl; have pf4_1 := RP4.free 1)))
    (try simp only [Exit.inBlock, Exit.then])
    refine bodyPost_ret (results_pt rfl _ _ w.heap.size 0 0 18 (show Row _ w.heap.size #[.int .i64 0, .int .i64 0] from (by exact ro)) rfl rfl) rfl ?_
    exact ⟨by rw [HE2.out], (show Chg [] w _ by (repeat' (first | (with_reducible first | exact Chg.refl _ _ | assumption | refine Chg.alloc ?_ _ | refine Chg.drew ?_ | refine Chg.drewN ?_ _ | refine Chg.setCell ?_ ?_ _ | refine Chg.upc ?_ (by assumption) | refine Chg.call ?_ (by assumption) ?_) | (refine Or.inl ?_; (simp; done)) | (simp; done) | (simp; omega) | omega))).up⟩
  next =>
    have HE2 := Lib.hid (show farR F FM zs = D by rw [HE.out, HF.out]; rfl)
    go_enter Tryd.func9, Tryd.ntmps9
    go_wp2_with (first
      | (go_at_call 30; ((with_reducible refine (rsum_calls F v zs _ (HV.out.up (by exact ua)) hl).mono ?_); rw [HX.out]; rintro E w1 ⟨rfl, hu1⟩; have z1 := hu1.size; (try simp at z1); have RP1 := Row.up (show Row _ w.heap.size #[.int .i64 0, .int .i64 0] by exact ra) hu1))
      | (go_at_call 29; ((with_reducible refine (Rfix.rounded_calls N 1000 _ (by decide) (by decide) (by decide) (by omega) (by omega)).mono ?_); rw [HQ.out]; rintro E w2 ⟨rfl, hu2⟩; have z2 := hu2.size; have RP2 := RP1.up hu2; have RS2 : Row w2 b (rsC C F FM dk n vl) := Row.up (Row.up (show Row _ b (rsC C F FM dk n vl) from HR.out.alloc _) hu1) hu2; have lb2 := RS2.lt; have w2m_18 : w2.cell? ⟨b, 18, none⟩ = some (.int .i64 FM.a) := RS2.cell 18 rfl; have w2m_19 : w2.cell? ⟨b, 19, none⟩ = some (.int .i64 FM.b) := RS2.cell 19 rfl; have w2m_20 : w2.cell? ⟨b, 20, none⟩ = some (.int .i64 FM.c) := RS2.cell 20 rfl; have w2m_21 : w2.cell? ⟨b, 21, none⟩ = some (.int .i64 FM.d) := RS2.cell 21 rfl; have w2m_22 : w2.cell? ⟨b, 22, none⟩ = some (.int .i64 FM.x) := RS2.cell 22 rfl; have w2m_23 : w2.cell? ⟨b, 23, none⟩ = some (.int .i64 FM.y) := RS2.cell 23 rfl; have p2_0 : w2.cell? ⟨w.heap.size, 0, none⟩ = some (.int .i64 0) := RP2.cell 0 rfl; have pf2_0 := RP2.free 0; have p2_1 : w2.cell? ⟨w.heap.size, 1, none⟩ = some (.int .i64 0) := RP2.cell 1 rfl; have pf2_1 := RP2.free 1))
      | (go_at_call 31; ((with_reducible refine (Rfix.fits_calls _ _).mono ?_); rw [HF.out]; rintro E w3 ⟨rfl, rfl⟩))
      | (go_at_call 32; ((with_reducible refine (Rmat.delta_calls FM.a FM.b FM.c FM.d FM.x FM.y _ 0 _).mono ?_); rw [HD.out]; rintro E w4 ⟨rfl, hu4⟩; have z4 := hu4.size; have RP4 := RP2.up hu4; have p4_0 : w4.cell? ⟨w.heap.size, 0, none⟩ = some (.int .i64 0) := RP4.cell 0 rfl; have pf4_0 := RP4.free 0; have p4_1 : w4.cell? ⟨w.heap.size, 1, none⟩ = some (.int .i64 0) := RP4.cell 1 rfl; have pf4_1 := RP4.free 1)))
    (try simp only [Exit.inBlock, Exit.then])
    refine bodyPost_ret (results_pt rfl _ _ w.heap.size D.1.1 D.1.2 D.2 (show Row _ w.heap.size #[.int .i64 D.1.1, .int .i64 D.1.2] from (by exact ro)) rfl rfl) rfl ?_
    exact ⟨by rw [HE2.out], (show Chg [] w _ by (repeat' (first | (with_reducible first | exact Chg.refl _ _ | assumption | refine Chg.alloc ?_ _ | refine Chg.drew ?_ | refine Chg.drewN ?_ _ | refine Chg.setCell ?_ ?_ _ | refine Chg.upc ?_ (by assumption) | refine Chg.call ?_ (by assumption) ?_) | (refine Or.inl ?_; (simp; done)) | (simp; done) | (simp; omega) | omega))).up⟩



end Go.Proofs.YtjdbefpfjhdmoaaDoor.Sh
end
