/- Items that share nothing: what they own, and how slices are cloned. No condition but lengths that an append bears. -/
import Derived.Test.YtpellcdggaeppaaGreatDoorGPt8
namespace Go.Proofs.YtpellcdggaeppaaGreatDoor.Pt
open Go.ChangeShapes Go.WideShapes Go.ChangeAt Go.RowKit Go.Deep
open Go.Proofs.YtpellcdggaeppaaGreatDoor.FixM (fits)
open Go.Proofs.YtpellcdggaeppaaGreatDoor.PathM (Seg sound segCells)
open Go.Proofs.YtpellcdggaeppaaGreatDoor.MatM (M6)
set_option linter.unusedVariables false
set_option linter.unusedSimpArgs false

/-- n elements of K cells each, read through a slice -/
def Src (w : World) (v : Value) (K n : Nat) (xs : List Value) : Prop :=
  ∃ ao c, v = .slice ao n c ∧ xs.length = n * K ∧ (ao = none → n = 0 ∧ c = 0) ∧ (∀ ad, ao = some ad → ∀ j u, xs[j]? = some u → w.cell? (ad.add j) = some u)
theorem cell_up {w w1 : World} {p : Addr} {u : Value} (hu : Up w w1) (h : w.cell? p = some u) : w1.cell? p = some u := by
  have hs := World.cell?_spot h
  obtain ⟨b, o, sp⟩ := p
  simp only at hs
  subst hs
  rw [hu.cells.1 b o (cell_lt h)]
  exact h
theorem Src.up {w w1 : World} {v : Value} {K n : Nat} {xs : List Value} (h : Src w v K n xs) (hu : Up w w1) : Src w1 v K n xs := by
  obtain ⟨ao, c, e, hl, hn, hc⟩ := h
  exact ⟨ao, c, e, hl, hn, fun ad ha j u hj => cell_up hu (hc ad ha j u hj)⟩
theorem src_ints {k : IntKind} {w : World} {v : Value} {zs : List Int} (h : Ints k w v zs) : Src w v 1 zs.length (zs.map (Value.int k)) := by
  obtain ⟨ao, c, e, _, _, hn, hc⟩ := h.src
  exact ⟨ao, c, e, by simp, hn, hc⟩
theorem sl_cells {α : Type} {K : Nat} {cells : α → List Value} (hlen : ∀ s, (cells s).length = K) : ∀ (l : List α) (j : Nat) (u : Value), (l.flatMap cells)[j]? = some u → ∃ i s r, l[i]? = some s ∧ (cells s)[r]? = some u ∧ j = i * K + r
  | [], j, u, h => by simp at h
  | s :: l, j, u, h => by
    rw [List.flatMap_cons] at h
    by_cases hj : j < (cells s).length
    · rw [List.getElem?_append_left hj] at h
      exact ⟨0, s, j, rfl, h, by simp⟩
    · rw [List.getElem?_append_right (by omega)] at h
      obtain ⟨i, s', r, h1, h2, h3⟩ := sl_cells hlen l _ u h
      rw [hlen] at h3 hj
      exact ⟨i + 1, s', r, by simpa using h1, h2, by rw [Nat.add_mul]; omega⟩
theorem sl_length {α : Type} {K : Nat} {cells : α → List Value} (hlen : ∀ s, (cells s).length = K) (l : List α) : (l.flatMap cells).length = l.length * K := by
  induction l with
  | nil => simp
  | cons s l ih => rw [List.flatMap_cons, List.length_append, ih, hlen, List.length_cons, Nat.add_mul]; omega
theorem src_sl {α : Type} {K : Nat} {cells : α → List Value} (hK : 0 < K) (hlen : ∀ s, (cells s).length = K) {w : World} {a : Option Addr} {len cap : Nat} {l : List α} (h : Sl K cells w a len cap l) : Src w (.slice a len cap) K len (l.flatMap cells) := by
  obtain ⟨h1, h2, h3, h4, h5⟩ := h
  refine ⟨a, cap, rfl, by rw [sl_length hlen, h3], h4, fun ad ha j u hj => ?_⟩
  obtain ⟨i, s, r, hi, hr, e⟩ := sl_cells hlen l j u hj
  have hi2 := (List.getElem?_eq_some_iff.1 hi).1
  obtain ⟨b, o, e2, hb, hc⟩ := h5 (by omega)
  rw [e2] at ha
  injection ha with ha
  subst ha e
  rw [add_plain, ← Nat.add_assoc]
  exact hc i s r u hi hr
def clipCells (l : List Clip) : List Value := l.flatMap Clip.cells
theorem clip_len (c : Clip) : c.cells.length = 2 := rfl
theorem clipCells_one (l : List Clip) (h : ∀ c ∈ l, c.v.oneCell' = true) : ∀ u ∈ clipCells l, u.oneCell' = true := fun u hu => by
  simp only [clipCells, List.mem_flatMap, Clip.cells] at hu
  obtain ⟨c, hc, hu⟩ := hu
  simp only [List.mem_cons, List.not_mem_nil, or_false] at hu
  rcases hu with rfl | rfl
  · exact h c hc
  · rfl
/-- what an item says, wherever its lists lie -/
structure Dat where
  k : Int
  l : List Seg
  col : Int × Int × Int × Int × Int
  cl : List (List Seg × Bool)
  pen : Int × Int × Int × Int
  ds : List Int
  ph : Int
  fn : Int
  m : M6
  bs : List Int
def Item.dat (i : Item) : Dat := ⟨i.k, i.l, (i.sp, i.p0, i.p1, i.p2, i.p3), i.cl.map (fun c => (c.l, c.eo)), (i.wd, i.cap, i.jn, i.mt), i.ds, i.ph, i.fn, i.m, i.bs⟩
/-- the blocks that an item's lists lie in -/
def Item.bl (i : Item) : List Nat := own i.pv ++ (own i.bv ++ (own i.dv ++ (own i.cv ++ i.cl.flatMap (fun c => own c.v))))
/-- an item whose lists are rows of its own -/
structure ItemO (w : World) (i : Item) : Prop where
  pv : Path.Segs w i.pv i.l
  cv : w.ownsRow 0 59 2 i.cv i.cl.length (clipCells i.cl)
  cs : ∀ c ∈ i.cl, Path.Segs w c.v c.l
  dv : w.ownsRow 0 3 1 i.dv i.ds.length (i.ds.map (Value.int .i64))
  bv : w.ownsRow 0 5 1 i.bv i.bs.length (i.bs.map (Value.int .u8))
  dw : ∀ z ∈ i.ds, (Lit.int .i64 z).wf = true
  bw : ∀ z ∈ i.bs, (Lit.int .u8 z).wf = true
  nd : i.bl.Nodup
theorem ItemO.chg {S : List Nat} {w w1 : World} {i : Item} (h : ItemO w i) (hc : Chg S w w1) (hn : ∀ b ∈ i.bl, b ∉ S) : ItemO w1 i := by
  have h1 : ∀ b ∈ own i.pv, b ∉ S := fun b hb => hn b (by simp [Item.bl, hb])
  have h2 : ∀ b ∈ own i.bv, b ∉ S := fun b hb => hn b (by simp [Item.bl, hb])
  have h3 : ∀ b ∈ own i.dv, b ∉ S := fun b hb => hn b (by simp [Item.bl, hb])
  have h4 : ∀ b ∈ own i.cv, b ∉ S := fun b hb => hn b (by simp [Item.bl, hb])
  have h5 : ∀ c ∈ i.cl, ∀ b ∈ own c.v, b ∉ S := fun c hc b hb => hn b (by simp only [Item.bl, List.mem_append, List.mem_flatMap]; exact Or.inr (Or.inr (Or.inr (Or.inr ⟨c, hc, hb⟩))))
  exact ⟨owned_chg h.pv hc (fun g hg => h1 g (own_mem hg)), owned_chg h.cv hc (fun g hg => h4 g (own_mem hg)), fun c hc2 => owned_chg (h.cs c hc2) hc (fun g hg => h5 c hc2 g (own_mem hg)), owned_chg h.dv hc (fun g hg => h3 g (own_mem hg)), owned_chg h.bv hc (fun g hg => h2 g (own_mem hg)), h.dw, h.bw, h.nd⟩
theorem ItemO.up {w w1 : World} {i : Item} (h : ItemO w i) (hu : Up w w1) : ItemO w1 i := h.chg (Chg.of_up (S := []) hu) (fun _ _ => by simp)
theorem flat_at {α : Type} {K : Nat} {cells : α → List Value} (hlen : ∀ s, (cells s).length = K) : ∀ (l : List α) (i : Nat) (s : α) (j : Nat) (u : Value), l[i]? = some s → (cells s)[j]? = some u → (l.flatMap cells)[i * K + j]? = some u
  | [], i, s, j, u, hi, _ => by simp at hi
  | x :: l, 0, s, j, u, hi, hj => by
    simp at hi
    subst hi
    rw [List.flatMap_cons, Nat.zero_mul, Nat.zero_add, List.getElem?_append_left (List.getElem?_eq_some_iff.1 hj).1]
    exact hj
  | x :: l, i + 1, s, j, u, hi, hj => by
    have hx : (cells x).length = K := hlen x
    rw [List.flatMap_cons, List.getElem?_append_right (by rw [hx, Nat.add_mul]; omega), hx]
    have : (i + 1) * K + j - K = i * K + j := by rw [Nat.add_mul]; omega
    rw [this]
    exact flat_at hlen l i s j u (by simpa using hi) hj
theorem owns_sl {α : Type} {w : World} {base : Nat} {e : TypeId} {K : Nat} {cells : α → List Value} (hlen : ∀ s, (cells s).length = K) {v : Value} {l : List α} (h : w.ownsRow base e K v l.length (l.flatMap cells)) : ∃ a len cap, v = .slice a len cap ∧ Sl K cells w a len cap l := by
  rcases h.2 with ⟨rfl, h0⟩ | ⟨g, cap, cur, rfl, _, hg, hn, hm, _⟩
  · have := List.eq_nil_of_length_eq_zero h0
    subst this
    exact ⟨none, 0, 0, rfl, Nat.le_refl _, by decide, rfl, fun _ => ⟨rfl, rfl⟩, fun h => absurd h (by decide)⟩
  · refine ⟨_, _, _, rfl, hn, by unfold maxLen at hm; omega, rfl, (fun e => by cases e), fun _ => ⟨g, 0, rfl, (Array.getElem?_eq_some_iff.1 hg).1, fun i s j u hi hj => ?_⟩⟩
    have hc := h.cells (g := g) rfl (i * K + j) u
    rw [add_plain, Nat.zero_add] at hc
    rw [Nat.zero_add]
    exact hc (flat_at hlen l i s j u hi hj)
theorem ItemO.is {w : World} {i : Item} (h : ItemO w i) : i.is w := by
  obtain ⟨a, len, cap, e, hs⟩ := owns_sl clip_len h.cv
  exact ⟨h.pv.v, ⟨a, len, cap, e, hs, fun c hc => (h.cs c hc).v⟩, owns_ints h.dv h.dw, owns_ints h.bv h.bw⟩
theorem infoI1 : (Tryz.prog.info? 3).map (fun i => (i.zero, i.size, i.bytes)) = some (some (.int .i64 0), 1, 8) := by kernel_rfl
theorem infoU1 : (Tryz.prog.info? 5).map (fun i => (i.zero, i.size, i.bytes)) = some (some (.int .u8 0), 1, 1) := by kernel_rfl
theorem infoS7 : (Tryz.prog.info? 57).map (fun i => (i.zero, i.size, i.bytes)) = some (some (.agg #[.int .i64 0, .int .i64 0, .int .i64 0, .int .i64 0, .int .i64 0, .int .i64 0, .int .i64 0]), 7, 56) := by kernel_rfl

end Go.Proofs.YtpellcdggaeppaaGreatDoor.Pt
