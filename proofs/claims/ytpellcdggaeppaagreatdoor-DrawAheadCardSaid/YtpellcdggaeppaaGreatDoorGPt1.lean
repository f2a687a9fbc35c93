/- Items of a page in memory, and a page that came in by value, opened. No condition. -/
import Derived.Test.YtpellcdggaeppaaGreatDoorSlArg
import Derived.Test.YtpellcdggaeppaaGreatDoorSegArg
import Derived.Test.YtpellcdggaeppaaGreatDoorGPathW8
import Derived.Test.YtpellcdggaeppaaGreatDoorSl
import Derived.Test.YtpellcdggaeppaaGreatDoorGM
namespace Go.Proofs.YtpellcdggaeppaaGreatDoor.Pt
open Go.ChangeShapes Go.WideShapes Go.RowKit Go.Deep
open Go.Proofs.YtpellcdggaeppaaGreatDoor.PathM (Seg)
open Go.Proofs.YtpellcdggaeppaaGreatDoor.MatM (M6)
set_option linter.unusedVariables false
set_option linter.unusedSimpArgs false

structure Clip where
  v : Value
  l : List Seg
  eo : Bool
def Clip.cells (c : Clip) : List Value := [c.v, .bool c.eo]
/-- an item, and where its lists lie -/
structure Item where
  k : Int
  pv : Value
  l : List Seg
  sp : Int
  p0 : Int
  p1 : Int
  p2 : Int
  p3 : Int
  cv : Value
  cl : List Clip
  wd : Int
  cap : Int
  jn : Int
  mt : Int
  dv : Value
  ds : List Int
  ph : Int
  fn : Int
  m : M6
  bv : Value
  bs : List Int
def Item.cells (i : Item) : List Value := [.int .i64 i.k, i.pv, .int .i64 i.sp, .int .i64 i.p0, .int .i64 i.p1, .int .i64 i.p2, .int .i64 i.p3, i.cv, .int .i64 i.wd, .int .i64 i.cap, .int .i64 i.jn, .int .i64 i.mt, i.dv, .int .i64 i.ph, .int .i64 i.fn,
  .int .i64 i.m.a, .int .i64 i.m.b, .int .i64 i.m.c, .int .i64 i.m.d, .int .i64 i.m.x, .int .i64 i.m.y, i.bv]
/-- clips that a slice leads to -/
def ClipV (w : World) (v : Value) (l : List Clip) : Prop := ∃ a len cap, v = .slice a len cap ∧ Sl 2 Clip.cells w a len cap l ∧ ∀ c ∈ l, Path.SegV w c.v c.l
/-- an item's lists lie where it says -/
def Item.is (w : World) (i : Item) : Prop := Path.SegV w i.pv i.l ∧ ClipV w i.cv i.cl ∧ Ints .i64 w i.dv i.ds ∧ Ints .u8 w i.bv i.bs
/-- items that a slice leads to -/
def ItemV (w : World) (v : Value) (l : List Item) : Prop := ∃ a len cap, v = .slice a len cap ∧ Sl 22 Item.cells w a len cap l ∧ ∀ i ∈ l, i.is w

theorem sl_up {α : Type} {K : Nat} {cells : α → List Value} {w w1 : World} {a : Option Addr} {len cap : Nat} {l : List α} (h : Sl K cells w a len cap l) (hu : Up w w1) : Sl K cells w1 a len cap l := by
  obtain ⟨h1, h2, h3, h4, h5⟩ := h
  refine ⟨h1, h2, h3, h4, fun h0 => ?_⟩
  obtain ⟨b, o, e, hb, hc⟩ := h5 h0
  exact ⟨b, o, e, Nat.lt_of_lt_of_le hb hu.size, fun i s j u hs hj => (hu.cells.1 b _ hb).trans (hc i s j u hs hj)⟩
theorem ClipV.up {w w1 : World} {v : Value} {l : List Clip} (h : ClipV w v l) (hu : Up w w1) : ClipV w1 v l := by
  obtain ⟨a, len, cap, e, h1, h2⟩ := h
  exact ⟨a, len, cap, e, sl_up h1 hu, fun c hc => (h2 c hc).up hu⟩
theorem Item.is.up {w w1 : World} {i : Item} (h : i.is w) (hu : Up w w1) : i.is w1 := ⟨h.1.up hu, h.2.1.up hu, h.2.2.1.up hu, h.2.2.2.up hu⟩
theorem ItemV.up {w w1 : World} {v : Value} {l : List Item} (h : ItemV w v l) (hu : Up w w1) : ItemV w1 v l := by
  obtain ⟨a, len, cap, e, h1, h2⟩ := h
  exact ⟨a, len, cap, e, sl_up h1 hu, fun c hc => (h2 c hc).up hu⟩
theorem sl_segV {w : World} {a : Option Addr} {len cap : Nat} {l : List Seg} (h : Sl 7 PathM.Seg.cells w a len cap l) : Path.SegV w (.slice a len cap) l := by
  obtain ⟨h1, h2, h3, h4, h6⟩ := h
  subst h3
  by_cases h0 : l.length = 0
  · have := List.eq_nil_of_length_eq_zero h0
    subst this
    exact Or.inl ⟨a, cap, rfl, rfl⟩
  · obtain ⟨b, o, rfl, hb, hc⟩ := h6 (by omega)
    exact Or.inr ⟨b, o, cap, rfl, by omega, hb, hc, by omega⟩

section
variable {H : Type} {enc : TypeId × Value → H} {W : World} {base : Nat} {spare : Nat → Bool} {held : Bool}
/-- a slice of structs, opened -/
theorem sl_open {α : Type} {P : Program} {fuel : Nat} {cs0 : List Value} {y0 : DataW H × List MemPlace} {t e : TypeId} (dflt : α) (K : Nat) (cells : α → List Value) (WF : α → Prop)
    (hu : P.underlying t = some (.slice e)) (hK : P.cellsOf e = K) (h0K : 0 < K) (hlen : ∀ s, (cells s).length = K)
    (op : ∀ (fuel : Nat) (cs : List Value) (y : DataW H × List MemPlace), DataW.trod enc P W base spare held fuel e cs = some y → ∃ s, cs = cells s ∧ WF s)
    (hf : DataW.trod enc P W base spare held fuel t cs0 = some y0) : ∃ a len cap l, cs0 = [.slice a len cap] ∧ Sl K cells W a len cap l ∧ ∀ s ∈ l, WF s := by
  rcases open_slice hu hf with ⟨hcs, _⟩ | ⟨x, l, c, m, n, D, Pl, hcs, _, hl, hm, hmm, _, hx⟩
  · exact ⟨none, 0, 0, [], hcs, ⟨Nat.le_refl _, by decide, rfl, fun _ => ⟨rfl, rfl⟩, fun h => absurd h (by decide)⟩, by simp⟩
  · have hlm : l ≤ m := by rw [hmm]; split <;> omega
    rw [hK] at hx
    have each : ∀ i, ∃ s : α, i < m → WF s ∧ ∀ j u, (cells s)[j]? = some u → W.cell? ((x.add (i * K)).add j) = some u := by
      intro i
      by_cases hi : i < m
      · obtain ⟨cs, hc, ht⟩ := hx i hi
        obtain ⟨s, rfl, hs⟩ := op _ _ _ ht
        refine ⟨s, fun _ => ⟨hs, fun j u hu => ?_⟩⟩
        unfold World.cells? at hc
        split at hc
        · have hj : j < K := by
            have := (List.getElem?_eq_some_iff.1 hu).1
            rwa [hlen] at this
          have := mapM_some_get hc j j (by simp [hj])
          rw [this, hu]
        · cases hc
      · exact ⟨dflt, fun h => absurd h hi⟩
    obtain ⟨f, hf⟩ := Classical.axiomOfChoice each
    refine ⟨some x, l, c, (List.range l).map f, hcs, ⟨hl, by unfold maxLen at hm; omega, by simp, (fun h => by cases h), ?_⟩, ?_⟩
    · intro h0
      obtain ⟨b, o, sp⟩ := x
      have hk0 : 0 < (cells (f 0)).length := by rw [hlen]; exact h0K
      have hc0 := (hf 0 (by omega)).2 0 _ (List.getElem?_eq_getElem hk0)
      have hsp : sp = none := by
        have := World.cell?_spot hc0
        simpa [Addr.add] using this
      subst hsp
      rw [add_plain, add_plain] at hc0
      refine ⟨b, o, rfl, cell_lt hc0, fun i s j u hs hu => ?_⟩
      obtain ⟨hi, e⟩ := List.getElem?_eq_some_iff.1 hs
      simp at hi e
      subst e
      have := (hf i (by omega)).2 j u hu
      rwa [add_plain, add_plain] at this
    · intro s hs
      simp only [List.mem_map, List.mem_range] at hs
      obtain ⟨i, hi, rfl⟩ := hs
      exact (hf i (by omega)).1
theorem ints_open {k : IntKind} {P : Program} {fuel : Nat} {cs : List Value} {y : DataW H × List MemPlace} {t e : TypeId} (ht : P.underlying t = some (.slice e)) (he : P.underlying e = some (.int k)) (hc : P.cellsOf e = 1)
    (h : DataW.trod enc P W base spare held fuel t cs = some y) : ∃ v zs, cs = [v] ∧ Ints k W v zs := by
  rcases open_ints ht he hc h with ⟨hcs, _⟩ | ⟨x, l, c, zs, hcs, _, hl, hm, hz, _, hcell, hwz⟩
  · exact ⟨_, [], hcs, none, 0, rfl, Nat.le_refl _, by decide, fun _ => ⟨rfl, rfl⟩, fun h => absurd h (by decide), fun z hz => by cases hz⟩
  · have hlz : l ≤ zs.length := by rw [hz]; split <;> omega
    have hlt : (zs.take l).length = l := by rw [List.length_take]; omega
    refine ⟨_, zs.take l, hcs, some x, c, by rw [hlt], by rw [hlt]; exact hl, by unfold maxLen at hm; omega, (fun h => by cases h), fun h0 => ?_, fun z hz => hwz z (List.mem_of_mem_take hz)⟩
    rw [hlt] at h0
    obtain ⟨b, o, sp⟩ := x
    have hc0 := hcell 0 (by omega)
    have hsp : sp = none := by simpa [Addr.add] using World.cell?_spot hc0
    subst hsp
    have hb := cell_lt hc0
    refine ⟨b, o, rfl, hb, fun i hi => ?_⟩
    rw [hlt] at hi
    rw [← add_plain, hcell i (by omega)]
    congr 2
    rw [List.getD_eq_getElem?_getD, List.getD_eq_getElem?_getD, List.getElem?_take, if_pos hi]
theorem ptInt : Tryz.prog.cellsOf 3 = 1 := by kernel_rfl
theorem ptM : Tryz.prog.cellsOf 48 = 6 := by kernel_rfl
theorem ptP : Tryz.prog.cellsOf 42 = 4 := by kernel_rfl
theorem ptB : Tryz.prog.cellsOf 4 = 1 := by kernel_rfl
theorem ptU : Tryz.prog.cellsOf 5 = 1 := by kernel_rfl
theorem ptSegs : Tryz.prog.cellsOf 41 = 1 := by kernel_rfl
theorem ptClips : Tryz.prog.cellsOf 45 = 1 := by kernel_rfl
theorem ptIs : Tryz.prog.cellsOf 28 = 1 := by kernel_rfl
theorem ptBs : Tryz.prog.cellsOf 27 = 1 := by kernel_rfl
theorem ptCol : Tryz.prog.cellsOf 44 = 5 := by kernel_rfl
theorem ptPen : Tryz.prog.cellsOf 47 = 6 := by kernel_rfl
theorem ptClip : Tryz.prog.cellsOf 59 = 2 := by kernel_rfl
theorem ptItem : Tryz.prog.cellsOf 50 = 22 := by kernel_rfl
theorem segs_open {fuel : Nat} {cs : List Value} {y : DataW H × List MemPlace} (h : DataW.trod enc Tryz.prog W base spare held fuel 41 cs = some y) : ∃ v l, cs = [v] ∧ Path.SegV W v l := by
  obtain ⟨a, len, cap, l, e, h1, -⟩ := sl_open (⟨0, (0, 0), (0, 0), (0, 0)⟩ : Seg) 7 PathM.Seg.cells (fun _ => True) Tryz.underlying41 cSeg (by decide) (fun s => rfl) (fun _ _ _ h => by obtain ⟨s, e, -⟩ := seg_open h; exact ⟨s, e, trivial⟩) h
  exact ⟨_, l, e, sl_segV h1⟩
set_option maxRecDepth 8000 in
theorem clip_open {fuel : Nat} {cs : List Value} {y : DataW H × List MemPlace} (h : DataW.trod enc Tryz.prog W base spare held fuel 59 cs = some y) : ∃ c : Clip, cs = c.cells ∧ Path.SegV W c.v c.l := by
  obtain ⟨n, hl, hF⟩ := trod_field Tryz.underlying59 h
  clear h
  rw [ptClip] at hl
  match cs, hl with
  | [c0, c1], _ =>
    obtain ⟨y0, h0⟩ := hF 0 _ rfl
    obtain ⟨y1, h1⟩ := hF 1 _ rfl
    simp [ptSegs, ptB] at h0 h1
    obtain ⟨v, l, e0, hs⟩ := segs_open h0
    obtain ⟨b, e1, -⟩ := DataW.trod_bool Tryz.underlying4 h1
    simp at e0 e1
    subst e0 e1
    exact ⟨⟨c0, l, b⟩, rfl, hs⟩
theorem clips_open {fuel : Nat} {cs : List Value} {y : DataW H × List MemPlace} (h : DataW.trod enc Tryz.prog W base spare held fuel 45 cs = some y) : ∃ v l, cs = [v] ∧ ClipV W v l := by
  obtain ⟨a, len, cap, l, e, h1, h2⟩ := sl_open (⟨.slice none 0 0, [], false⟩ : Clip) 2 Clip.cells (fun c => Path.SegV W c.v c.l) Tryz.underlying45 ptClip (by decide) (fun s => rfl) (fun _ _ _ h => clip_open h) h
  exact ⟨_, l, e, a, len, cap, rfl, h1, h2⟩
theorem mat_open {fuel : Nat} {c0 c1 c2 c3 c4 c5 : Value} {y : DataW H × List MemPlace} (h : DataW.trod enc Tryz.prog W base spare held fuel 48 [c0, c1, c2, c3, c4, c5] = some y) :
    ∃ m : M6, c0 = .int .i64 m.a ∧ c1 = .int .i64 m.b ∧ c2 = .int .i64 m.c ∧ c3 = .int .i64 m.d ∧ c4 = .int .i64 m.x ∧ c5 = .int .i64 m.y := by
  obtain ⟨xs, k, -, -, -, hx, ha⟩ := DataW.trod_array Tryz.underlying48 h
  simp only [ptInt] at ha
  match xs, hx with
  | [x0, x1, x2, x3, x4, x5], _ =>
    obtain ⟨z2, e2, -, -⟩ := DataW.trod_int Tryz.underlying3 (by simpa using ha 0 (by decide))
    obtain ⟨z3, e3, -, -⟩ := DataW.trod_int Tryz.underlying3 (by simpa using ha 1 (by decide))
    obtain ⟨z4, e4, -, -⟩ := DataW.trod_int Tryz.underlying3 (by simpa using ha 2 (by decide))
    obtain ⟨z5, e5, -, -⟩ := DataW.trod_int Tryz.underlying3 (by simpa using ha 3 (by decide))
    obtain ⟨z6, e6, -, -⟩ := DataW.trod_int Tryz.underlying3 (by simpa using ha 4 (by decide))
    obtain ⟨z7, e7, -, -⟩ := DataW.trod_int Tryz.underlying3 (by simpa using ha 5 (by decide))
    simp at e2 e3 e4 e5 e6 e7
    exact ⟨⟨z2, z3, z4, z5, z6, z7⟩, e2, e3, e4, e5, e6, e7⟩
theorem part_open {fuel : Nat} {c0 c1 c2 c3 : Value} {y : DataW H × List MemPlace} (h : DataW.trod enc Tryz.prog W base spare held fuel 42 [c0, c1, c2, c3] = some y) :
    ∃ a b c d : Int, c0 = .int .i64 a ∧ c1 = .int .i64 b ∧ c2 = .int .i64 c ∧ c3 = .int .i64 d := by
  obtain ⟨xs, k, -, -, -, hx, ha⟩ := DataW.trod_array Tryz.underlying42 h
  simp only [ptInt] at ha
  match xs, hx with
  | [x0, x1, x2, x3], _ =>
    obtain ⟨z2, e2, -, -⟩ := DataW.trod_int Tryz.underlying3 (by simpa using ha 0 (by decide))
    obtain ⟨z3, e3, -, -⟩ := DataW.trod_int Tryz.underlying3 (by simpa using ha 1 (by decide))
    obtain ⟨z4, e4, -, -⟩ := DataW.trod_int Tryz.underlying3 (by simpa using ha 2 (by decide))
    obtain ⟨z5, e5, -, -⟩ := DataW.trod_int Tryz.underlying3 (by simpa using ha 3 (by decide))
    simp at e2 e3 e4 e5
    exact ⟨z2, z3, z4, z5, e2, e3, e4, e5⟩
theorem col_open {fuel : Nat} {c0 c1 c2 c3 c4 : Value} {y : DataW H × List MemPlace} (h : DataW.trod enc Tryz.prog W base spare held fuel 44 [c0, c1, c2, c3, c4] = some y) :
    ∃ s a b c d : Int, c0 = .int .i64 s ∧ c1 = .int .i64 a ∧ c2 = .int .i64 b ∧ c3 = .int .i64 c ∧ c4 = .int .i64 d := by
  obtain ⟨n, hl, hF⟩ := trod_field Tryz.underlying44 h
  obtain ⟨y0, h0⟩ := hF 0 _ rfl
  obtain ⟨y1, h1⟩ := hF 1 _ rfl
  simp [ptInt, ptP] at h0 h1
  obtain ⟨s, e0, -, -⟩ := DataW.trod_int Tryz.underlying3 h0
  obtain ⟨a, b, c, d, e1, e2, e3, e4⟩ := part_open h1
  simp at e0
  exact ⟨s, a, b, c, d, e0, e1, e2, e3, e4⟩
theorem pen_open {fuel : Nat} {c0 c1 c2 c3 c4 c5 : Value} {y : DataW H × List MemPlace} (h : DataW.trod enc Tryz.prog W base spare held fuel 47 [c0, c1, c2, c3, c4, c5] = some y) :
    ∃ (wd cap jn mt ph : Int) (ds : List Int), c0 = .int .i64 wd ∧ c1 = .int .i64 cap ∧ c2 = .int .i64 jn ∧ c3 = .int .i64 mt ∧ Ints .i64 W c4 ds ∧ c5 = .int .i64 ph := by
  obtain ⟨n, hl, hF⟩ := trod_field Tryz.underlying47 h
  obtain ⟨y0, h0⟩ := hF 0 _ rfl
  obtain ⟨y1, h1⟩ := hF 1 _ rfl
  obtain ⟨y2, h2⟩ := hF 2 _ rfl
  obtain ⟨y3, h3⟩ := hF 3 _ rfl
  obtain ⟨y4, h4⟩ := hF 4 _ rfl
  obtain ⟨y5, h5⟩ := hF 5 _ rfl
  simp [ptInt, ptIs] at h0 h1 h2 h3 h4 h5
  obtain ⟨wd, e0, -, -⟩ := DataW.trod_int Tryz.underlying3 h0
  obtain ⟨cap, e1, -, -⟩ := DataW.trod_int Tryz.underlying3 h1
  obtain ⟨jn, e2, -, -⟩ := DataW.trod_int Tryz.underlying3 h2
  obtain ⟨mt, e3, -, -⟩ := DataW.trod_int Tryz.underlying3 h3
  obtain ⟨v, ds, e4, hd⟩ := ints_open Tryz.underlying28 Tryz.underlying3 ptInt h4
  obtain ⟨ph, e5, -, -⟩ := DataW.trod_int Tryz.underlying3 h5
  simp at e0 e1 e2 e3 e4 e5
  subst e4
  exact ⟨wd, cap, jn, mt, ph, ds, e0, e1, e2, e3, hd, e5⟩
set_option maxRecDepth 8000 in
theorem item_open {fuel : Nat} {cs : List Value} {y : DataW H × List MemPlace} (h : DataW.trod enc Tryz.prog W base spare held fuel 50 cs = some y) : ∃ i : Item, cs = i.cells ∧ i.is W := by
  obtain ⟨n, hl, hF⟩ := trod_field Tryz.underlying50 h
  clear h
  rw [ptItem] at hl
  match cs, hl with
  | [c0, c1, c2, c3, c4, c5, c6, c7, c8, c9, c10, c11, c12, c13, c14, c15, c16, c17, c18, c19, c20, c21], _ =>
    obtain ⟨y0, h0⟩ := hF 0 _ rfl
    obtain ⟨y1, h1⟩ := hF 1 _ rfl
    obtain ⟨y2, h2⟩ := hF 2 _ rfl
    obtain ⟨y3, h3⟩ := hF 3 _ rfl
    obtain ⟨y4, h4⟩ := hF 4 _ rfl
    obtain ⟨y5, h5⟩ := hF 5 _ rfl
    obtain ⟨y6, h6⟩ := hF 6 _ rfl
    obtain ⟨y7, h7⟩ := hF 7 _ rfl
    simp [ptInt, ptSegs, ptCol, ptClips, ptPen, ptM, ptBs] at h0 h1 h2 h3 h4 h5 h6 h7
    obtain ⟨k, e0, -, -⟩ := DataW.trod_int Tryz.underlying3 h0
    obtain ⟨v1, l, e1, hs⟩ := segs_open h1
    obtain ⟨sp, p0, p1, p2, p3, e2, e3, e4, e5, e6⟩ := col_open h2
    obtain ⟨v7, cl, e7, hc⟩ := clips_open h3
    obtain ⟨wd, cap, jn, mt, ph, ds, e8, e9, e10, e11, hd, e13⟩ := pen_open h4
    obtain ⟨fn, e14, -, -⟩ := DataW.trod_int Tryz.underlying3 h5
    obtain ⟨m, e15, e16, e17, e18, e19, e20⟩ := mat_open h6
    obtain ⟨v21, bs, e21, hb⟩ := ints_open Tryz.underlying27 Tryz.underlying5 ptU h7
    simp at e0 e1 e7 e14 e21
    subst e0 e1 e2 e3 e4 e5 e6 e7 e8 e9 e10 e11 e13 e14 e15 e16 e17 e18 e19 e20 e21
    exact ⟨⟨k, c1, l, sp, p0, p1, p2, p3, c7, cl, wd, cap, jn, mt, c12, ds, ph, fn, m, c21, bs⟩, rfl, hs, hc, hd, hb⟩
def Item.zero : Item := ⟨0, .slice none 0 0, [], 0, 0, 0, 0, 0, .slice none 0 0, [], 0, 0, 0, 0, .slice none 0 0, [], 0, 0, ⟨0, 0, 0, 0, 0, 0⟩, .slice none 0 0, []⟩
theorem items_open {fuel : Nat} {cs : List Value} {y : DataW H × List MemPlace} (h : DataW.trod enc Tryz.prog W base spare held fuel 22 cs = some y) : ∃ v l, cs = [v] ∧ ItemV W v l := by
  obtain ⟨a, len, cap, l, e, h1, h2⟩ := sl_open Item.zero 22 Item.cells (fun i => i.is W) Tryz.underlying22 ptItem (by decide) (fun s => rfl) (fun _ _ _ h => item_open h) h
  exact ⟨_, l, e, a, len, cap, rfl, h1, h2⟩
end
end Go.Proofs.YtpellcdggaeppaaGreatDoor.Pt
