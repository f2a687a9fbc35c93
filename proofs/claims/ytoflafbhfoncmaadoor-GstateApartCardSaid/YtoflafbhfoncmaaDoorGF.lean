/- Items that share nothing: what they own, and how slices are cloned. No condition but lengths that an append bears. paint.own of any item. No condition but lengths that an append bears. -/
import Derived.Test.YtoflafbhfoncmaaDoorGPt8
import Derived.OwnWalk
import Derived.Deep.CutRange
section
namespace Go.Proofs.YtoflafbhfoncmaaDoor.Pt
open Go.ChangeShapes Go.WideShapes Go.ChangeAt Go.RowKit Go.Deep
open Go.Proofs.YtoflafbhfoncmaaDoor.FixM (fits)
open Go.Proofs.YtoflafbhfoncmaaDoor.PathM (Seg sound segCells)
open Go.Proofs.YtoflafbhfoncmaaDoor.MatM (M6)
set_option linter.unusedVariables false
set_option linter.unusedSimpArgs false

/-- n elements of K cells each, read through a slice -/
def Src (w : World) (v : Value) (K n : Nat) (xs : List Value) : Prop :=
  ∃ ao c, v = .slice ao n c ∧ xs.length = n * K ∧ (ao = none → n = 0 ∧ c = 0) ∧ (∀ ad, ao = some ad → ∀ j u, xs[j]? = some u → w.cell? (ad.add j) = some u)
theorem cell_up {w w1 : World} {p : Addr} {u : Value} (hu : Up w w1) (h : w.cell? p = some u) : w1.cell? p = some u := by
  have hs := World.cell?_spot h
  obtain ⟨b, o, sp⟩ := p
  simp only at hs
  subst hs
  rw [hu.cells.1 b o (cell_lt h)]
  exact h
theorem Src.up {w w1 : World} {v : Value} {K n : Nat} {xs : List Value} (h : Src w v K n xs) (hu : Up w w1) : Src w1 v K n xs := by
  obtain ⟨ao, c, e, hl, hn, hc⟩ := h
  exact ⟨ao, c, e, hl, hn, fun ad ha j u hj => cell_up hu (hc ad ha j u hj)⟩
theorem src_ints {k : IntKind} {w : World} {v : Value} {zs : List Int} (h : Ints k w v zs) : Src w v 1 zs.length (zs.map (Value.int k)) := by
  obtain ⟨ao, c, e, _, _, hn, hc⟩ := h.src
  exact ⟨ao, c, e, by simp, hn, hc⟩
theorem sl_cells {α : Type} {K : Nat} {cells : α → List Value} (hlen : ∀ s, (cells s).length = K) : ∀ (l : List α) (j : Nat) (u : Value), (l.flatMap cells)[j]? = some u → ∃ i s r, l[i]? = some s ∧ (cells s)[r]? = some u ∧ j = i * K + r
  | [], j, u, h => by simp at h
  | s :: l, j, u, h => by
    rw [List.flatMap_cons] at h
    by_cases hj : j < (cells s).length
    · rw [List.getElem?_append_left hj] at h
      exact ⟨0, s, j, rfl, h, by simp⟩
    · rw [List.getElem?_append_right (by omega)] at h
      obtain ⟨i, s', r, h1, h2, h3⟩ := sl_cells hlen l _ u h
      rw [hlen] at h3 hj
      exact ⟨i + 1, s', r, by simpa using h1, h2, by rw [Nat.add_mul]; omega⟩
theorem sl_length {α : Type} {K : Nat} {cells : α → List Value} (hlen : ∀ s, (cells s).length = K) (l : List α) : (l.flatMap cells).length = l.length * K := by
  induction l with
  | nil => simp
  | cons s l ih => rw [List.flatMap_cons, List.length_append, ih, hlen, List.length_cons, Nat.add_mul]; omega
theorem src_sl {α : Type} {K : Nat} {cells : α → List Value} (hK : 0 < K) (hlen : ∀ s, (cells s).length = K) {w : World} {a : Option Addr} {len cap : Nat} {l : List α} (h : Sl K cells w a len cap l) : Src w (.slice a len cap) K len (l.flatMap cells) := by
  obtain ⟨h1, h2, h3, h4, h5⟩ := h
  refine ⟨a, cap, rfl, by rw [sl_length hlen, h3], h4, fun ad ha j u hj => ?_⟩
  obtain ⟨i, s, r, hi, hr, e⟩ := sl_cells hlen l j u hj
  have hi2 := (List.getElem?_eq_some_iff.1 hi).1
  obtain ⟨b, o, e2, hb, hc⟩ := h5 (by omega)
  rw [e2] at ha
  injection ha with ha
  subst ha e
  rw [add_plain, ← Nat.add_assoc]
  exact hc i s r u hi hr
def clipCells (l : List Clip) : List Value := l.flatMap Clip.cells
theorem clip_len (c : Clip) : c.cells.length = 2 := rfl
theorem clipCells_one (l : List Clip) (h : ∀ c ∈ l, c.v.oneCell' = true) : ∀ u ∈ clipCells l, u.oneCell' = true := fun u hu => by
  simp only [clipCells, List.mem_flatMap, Clip.cells] at hu
  obtain ⟨c, hc, hu⟩ := hu
  simp only [List.mem_cons, List.not_mem_nil, or_false] at hu
  rcases hu with rfl | rfl
  · exact h c hc
  · rfl
/-- what an item says, wherever its lists lie -/
structure Dat where
  k : Int
  l : List Seg
  col : Int × Int × Int × Int × Int
  cl : List (List Seg × Bool)
  pen : Int × Int × Int × Int
  ds : List Int
  ph : Int
  fn : Int
  m : M6
  bs : List Int
def Item.dat (i : Item) : Dat := ⟨i.k, i.l, (i.sp, i.p0, i.p1, i.p2, i.p3), i.cl.map (fun c => (c.l, c.eo)), (i.wd, i.cap, i.jn, i.mt), i.ds, i.ph, i.fn, i.m, i.bs⟩
/-- the blocks that an item's lists lie in -/
def Item.bl (i : Item) : List Nat := own i.pv ++ (own i.bv ++ (own i.dv ++ (own i.cv ++ i.cl.flatMap (fun c => own c.v))))
/-- an item whose lists are rows of its own -/
structure ItemO (w : World) (i : Item) : Prop where
  pv : Path.Segs w i.pv i.l
  cv : w.ownsRow 0 57 2 i.cv i.cl.length (clipCells i.cl)
  cs : ∀ c ∈ i.cl, Path.Segs w c.v c.l
  dv : w.ownsRow 0 3 1 i.dv i.ds.length (i.ds.map (Value.int .i64))
  bv : w.ownsRow 0 5 1 i.bv i.bs.length (i.bs.map (Value.int .u8))
  dw : ∀ z ∈ i.ds, (Lit.int .i64 z).wf = true
  bw : ∀ z ∈ i.bs, (Lit.int .u8 z).wf = true
  nd : i.bl.Nodup
theorem ItemO.chg {S : List Nat} {w w1 : World} {i : Item} (h : ItemO w i) (hc : Chg S w w1) (hn : ∀ b ∈ i.bl, b ∉ S) : ItemO w1 i := by
  have h1 : ∀ b ∈ own i.pv, b ∉ S := fun b hb => hn b (by simp [Item.bl, hb])
  have h2 : ∀ b ∈ own i.bv, b ∉ S := fun b hb => hn b (by simp [Item.bl, hb])
  have h3 : ∀ b ∈ own i.dv, b ∉ S := fun b hb => hn b (by simp [Item.bl, hb])
  have h4 : ∀ b ∈ own i.cv, b ∉ S := fun b hb => hn b (by simp [Item.bl, hb])
  have h5 : ∀ c ∈ i.cl, ∀ b ∈ own c.v, b ∉ S := fun c hc b hb => hn b (by simp only [Item.bl, List.mem_append, List.mem_flatMap]; exact Or.inr (Or.inr (Or.inr (Or.inr ⟨c, hc, hb⟩))))
  exact ⟨owned_chg h.pv hc (fun g hg => h1 g (own_mem hg)), owned_chg h.cv hc (fun g hg => h4 g (own_mem hg)), fun c hc2 => owned_chg (h.cs c hc2) hc (fun g hg => h5 c hc2 g (own_mem hg)), owned_chg h.dv hc (fun g hg => h3 g (own_mem hg)), owned_chg h.bv hc (fun g hg => h2 g (own_mem hg)), h.dw, h.bw, h.nd⟩
theorem ItemO.up {w w1 : World} {i : Item} (h : ItemO w i) (hu : Up w w1) : ItemO w1 i := h.chg (Chg.of_up (S := []) hu) (fun _ _ => by simp)
theorem flat_at {α : Type} {K : Nat} {cells : α → List Value} (hlen : ∀ s, (cells s).length = K) : ∀ (l : List α) (i : Nat) (s : α) (j : Nat) (u : Value), l[i]? = some s → (cells s)[j]? = some u → (l.flatMap cells)[i * K + j]? = some u
  | [], i, s, j, u, hi, _ => by simp at hi
  | x :: l, 0, s, j, u, hi, hj => by
    simp at hi
    subst hi
    rw [List.flatMap_cons, Nat.zero_mul, Nat.zero_add, List.getElem?_append_left (List.getElem?_eq_some_iff.1 hj).1]
    exact hj
  | x :: l, i + 1, s, j, u, hi, hj => by
    have hx : (cells x).length = K := hlen x
    rw [List.flatMap_cons, List.getElem?_append_right (by rw [hx, Nat.add_mul]; omega), hx]
    have : (i + 1) * K + j - K = i * K + j := by rw [Nat.add_mul]; omega
    rw [this]
    exact flat_at hlen l i s j u (by simpa using hi) hj
theorem owns_sl {α : Type} {w : World} {base : Nat} {e : TypeId} {K : Nat} {cells : α → List Value} (hlen : ∀ s, (cells s).length = K) {v : Value} {l : List α} (h : w.ownsRow base e K v l.length (l.flatMap cells)) : ∃ a len cap, v = .slice a len cap ∧ Sl K cells w a len cap l := by
  rcases h.2 with ⟨rfl, h0⟩ | ⟨g, cap, cur, rfl, _, hg, hn, hm, _⟩
  · have := List.eq_nil_of_length_eq_zero h0
    subst this
    exact ⟨none, 0, 0, rfl, Nat.le_refl _, by decide, rfl, fun _ => ⟨rfl, rfl⟩, fun h => absurd h (by decide)⟩
  · refine ⟨_, _, _, rfl, hn, by unfold maxLen at hm; omega, rfl, (fun e => by cases e), fun _ => ⟨g, 0, rfl, (Array.getElem?_eq_some_iff.1 hg).1, fun i s j u hi hj => ?_⟩⟩
    have hc := h.cells (g := g) rfl (i * K + j) u
    rw [add_plain, Nat.zero_add] at hc
    rw [Nat.zero_add]
    exact hc (flat_at hlen l i s j u hi hj)
theorem ItemO.is {w : World} {i : Item} (h : ItemO w i) : i.is w := by
  obtain ⟨a, len, cap, e, hs⟩ := owns_sl clip_len h.cv
  exact ⟨h.pv.v, ⟨a, len, cap, e, hs, fun c hc => (h.cs c hc).v⟩, owns_ints h.dv h.dw, owns_ints h.bv h.bw⟩
theorem infoI1 : (Tryd.prog.info? 3).map (fun i => (i.zero, i.size, i.bytes)) = some (some (.int .i64 0), 1, 8) := by kernel_rfl
theorem infoU1 : (Tryd.prog.info? 5).map (fun i => (i.zero, i.size, i.bytes)) = some (some (.int .u8 0), 1, 1) := by kernel_rfl
theorem infoS7 : (Tryd.prog.info? 55).map (fun i => (i.zero, i.size, i.bytes)) = some (some (.agg #[.int .i64 0, .int .i64 0, .int .i64 0, .int .i64 0, .int .i64 0, .int .i64 0, .int .i64 0]), 7, 56) := by kernel_rfl

theorem cloneSegs (v : Value) (n : Nat) (xs : List Value) (w : World) (h : Src w v 7 n xs) (h1 : ∀ u ∈ xs, u.oneCell' = true) (hl : n ≤ 1000000) :
    Calls Tryd.prog 39 #[v] w fun E w' => ∃ v', E = .returned v' ∧ w'.ownsRow 0 55 7 v' n xs ∧ (∀ g ∈ own v', w.heap.size ≤ g ∧ g < w'.heap.size) ∧ Up w w' := by
  obtain ⟨i0, hi, hz0, hz1, hz2⟩ := info_parts3 infoS7
  obtain ⟨ao, c, rfl, hln, hn, hc⟩ := h
  have HC := Lib.hid hc
  have H1 := Lib.hid h1
  clear hc h1
  cases ao with
  | none =>
    obtain ⟨rfl, rfl⟩ := hn rfl
    obtain rfl : xs = [] := List.eq_nil_of_length_eq_zero (by omega)
    have heq0 := fun w => Lib.run_eql_slice_nil (P := Tryd.prog) w 43 55 none 0 0 0 0 Tryd.underlying43
    go_enter Tryd.func39, Tryd.ntmps39
    go_wp2
    go_ret
    exact ⟨_, rfl, World.ownsRow_nil _ _ _ _, (fun g hg => by simp [own, Value.ownBlock] at hg), by (repeat' (first | (with_reducible first | exact Up.refl _ | assumption | refine Up.alloc ?_ _ | refine Up.drew ?_ | refine Up.drewN ?_ _ | refine Up.setCell ?_ ?_ _ | refine Up.call ?_ (by assumption)) | go_size))⟩
  | some ad =>
    have heq := fun w => Lib.run_eql_slice_nil (P := Tryd.prog) w 43 55 (some ad) n c 0 0 Tryd.underlying43
    go_enter Tryd.func39, Tryd.ntmps39
    go_wp2_with (at_builtin; refine wpList_append_any rfl _ _ 43 rfl w.heap.size 55 i0 _ 7 56 Tryd.underlying43 hi hz0 hz1 hz2 rfl (by decide) (.slice (some ⟨w.heap.size, 0, none⟩) 0 0) 0 [] rfl (World.ownsRow_made w #[] 0 (Nat.le_refl _) (by decide) rfl) (some ad) n c xs rfl hln (fun h => by cases h) (fun ad2 e j u hj => cell_up (Up.alloc (Up.refl w) _) (HC.out ad2 e j u hj)) H1.out (by unfold maxLen; omega) (by omega) (by simp) ?_; intro v4 w4 hown hgr hnil; have hu4 : Up w w4 := grown_up (Up.alloc (Up.refl w) _) hgr (fun k0 hk0 => by have h4 : w.heap.size = k0 := (by injection hk0); omega); have HO4 := Lib.hid hown; clear hgr hnil hown)
    go_ret
    have h5 := HO4.out
    rw [Nat.zero_add, List.nil_append] at h5
    exact ⟨_, rfl, (owned_new h5).1, (fun g hg => ⟨(owned_new h5).2 g (own_of hg), (h5.lt g (own_of hg)).2⟩), by (repeat' (first | (with_reducible first | exact Up.refl _ | assumption | refine Up.alloc ?_ _ | refine Up.drew ?_ | refine Up.drewN ?_ _ | refine Up.setCell ?_ ?_ _ | refine Up.call ?_ (by assumption)) | go_size))⟩

theorem cloneInts (v : Value) (n : Nat) (xs : List Value) (w : World) (h : Src w v 1 n xs) (h1 : ∀ u ∈ xs, u.oneCell' = true) (hl : n ≤ 1000000) :
    Calls Tryd.prog 50 #[v] w fun E w' => ∃ v', E = .returned v' ∧ w'.ownsRow 0 3 1 v' n xs ∧ (∀ g ∈ own v', w.heap.size ≤ g ∧ g < w'.heap.size) ∧ Up w w' := by
  obtain ⟨i0, hi, hz0, hz1, hz2⟩ := info_parts3 infoI1
  obtain ⟨ao, c, rfl, hln, hn, hc⟩ := h
  have HC := Lib.hid hc
  have H1 := Lib.hid h1
  clear hc h1
  cases ao with
  | none =>
    obtain ⟨rfl, rfl⟩ := hn rfl
    obtain rfl : xs = [] := List.eq_nil_of_length_eq_zero (by omega)
    have heq0 := fun w => Lib.run_eql_slice_nil (P := Tryd.prog) w 27 3 none 0 0 0 0 Tryd.underlying27
    go_enter Tryd.func50, Tryd.ntmps50
    go_wp2
    go_ret
    exact ⟨_, rfl, World.ownsRow_nil _ _ _ _, (fun g hg => by simp [own, Value.ownBlock] at hg), by (repeat' (first | (with_reducible first | exact Up.refl _ | assumption | refine Up.alloc ?_ _ | refine Up.drew ?_ | refine Up.drewN ?_ _ | refine Up.setCell ?_ ?_ _ | refine Up.call ?_ (by assumption)) | go_size))⟩
  | some ad =>
    have heq := fun w => Lib.run_eql_slice_nil (P := Tryd.prog) w 27 3 (some ad) n c 0 0 Tryd.underlying27
    go_enter Tryd.func50, Tryd.ntmps50
    go_wp2_with (at_builtin; refine wpList_append_any rfl _ _ 27 rfl w.heap.size 3 i0 _ 1 8 Tryd.underlying27 hi hz0 hz1 hz2 rfl (by decide) (.slice (some ⟨w.heap.size, 0, none⟩) 0 0) 0 [] rfl (World.ownsRow_made w #[] 0 (Nat.le_refl _) (by decide) rfl) (some ad) n c xs rfl hln (fun h => by cases h) (fun ad2 e j u hj => cell_up (Up.alloc (Up.refl w) _) (HC.out ad2 e j u hj)) H1.out (by unfold maxLen; omega) (by omega) (by simp) ?_; intro v4 w4 hown hgr hnil; have hu4 : Up w w4 := grown_up (Up.alloc (Up.refl w) _) hgr (fun k0 hk0 => by have h4 : w.heap.size = k0 := (by injection hk0); omega); have HO4 := Lib.hid hown; clear hgr hnil hown)
    go_ret
    have h5 := HO4.out
    rw [Nat.zero_add, List.nil_append] at h5
    exact ⟨_, rfl, (owned_new h5).1, (fun g hg => ⟨(owned_new h5).2 g (own_of hg), (h5.lt g (own_of hg)).2⟩), by (repeat' (first | (with_reducible first | exact Up.refl _ | assumption | refine Up.alloc ?_ _ | refine Up.drew ?_ | refine Up.drewN ?_ _ | refine Up.setCell ?_ ?_ _ | refine Up.call ?_ (by assumption)) | go_size))⟩

end Go.Proofs.YtoflafbhfoncmaaDoor.Pt
end

section
namespace Go.Proofs.YtoflafbhfoncmaaDoor.Pt
open Go.ChangeShapes Go.WideShapes Go.ChangeAt Go.RowKit
open Go.Proofs.YtoflafbhfoncmaaDoor.FixM (fits)
open Go.Proofs.YtoflafbhfoncmaaDoor.PathM (Seg sound)
open Go.Proofs.YtoflafbhfoncmaaDoor.MatM (M6)
set_option linter.unusedVariables false
set_option linter.unusedSimpArgs false
open Go.Proofs.YtoflafbhfoncmaaDoor.PathM (segCells)
theorem cast {w : World} {b : Nat} {cs cs2 : Array Value} (h : Row w b cs) (e : cs = cs2) : Row w b cs2 := e ▸ h
theorem rng0 {W : World} {b : Nat} {cs : Array Value} (h : Row W b cs) : W.rangeAt b 0 cs.toList := fun j v hj => by
  rw [Nat.zero_add]
  exact h.cell j (by simpa using hj)
theorem infoC2 : (Tryd.prog.info? 57).map (fun i => (i.zero, i.size, i.bytes)) = some (some (.agg #[.slice none 0 0, .bool false]), 2, 32) := by kernel_rfl
theorem own_slice {a : Option Addr} {n c : Nat} {g : Nat} (h : g ∈ own (.slice a n c)) : ∃ x, a = some x ∧ x.block = g := by
  cases a with
  | none => simp [own, Value.ownBlock] at h
  | some x => simp [own, Value.ownBlock] at h; exact ⟨x, rfl, h.symm⟩
theorem own_nodup (v : Value) : (own v).Nodup := by
  unfold own
  cases v.ownBlock <;> simp
theorem clipCells_append (l m : List Clip) : clipCells (l ++ m) = clipCells l ++ clipCells m := by simp [clipCells]
/-- clips that were cloned so far -/
structure MidC (w : World) (base : Nat) (v : Value) (l : List Clip) : Prop where
  its : w.ownsRow base 57 2 v l.length (clipCells l)
  cs : ∀ c ∈ l, Path.Segs w c.v c.l
  lo : ∀ c ∈ l, ∀ b ∈ own c.v, base ≤ b ∧ b < w.heap.size
  nd : (own v ++ l.flatMap (fun c => own c.v)).Nodup
theorem MidC.up {w w1 : World} {base : Nat} {v : Value} {l : List Clip} (h : MidC w base v l) (hu : Up w w1) : MidC w1 base v l :=
  ⟨raw_up h.its hu, fun c hc => owned_up (h.cs c hc) hu, fun c hc b hb => ⟨(h.lo c hc b hb).1, Nat.lt_of_lt_of_le (h.lo c hc b hb).2 hu.size⟩, h.nd⟩
theorem MidC.more {w w1 w2 : World} {base g2 cap2 H : Nat} {v : Value} {l : List Clip} (h : MidC w base v l) (hu : Up w w1) {k : Clip} (hk : Path.Segs w1 k.v k.l) (hf : ∀ b ∈ own k.v, w.heap.size ≤ b ∧ b < w1.heap.size)
    (hc : Chg (own v) w1 w2) (hat : v.ownBlock = some g2 ∨ g2 = H) (hH : w1.heap.size ≤ H) (hb : base ≤ w.heap.size)
    (ho : w2.ownsRow base 57 2 (.slice (some ⟨g2, 0, none⟩) (l.length + 1) cap2) (l.length + 1) (clipCells l ++ k.cells)) : MidC w2 base (.slice (some ⟨g2, 0, none⟩) (l.length + 1) cap2) (l ++ [k]) := by
  have hs := hu.size
  have hv : ∀ b ∈ own v, b < w.heap.size := fun b hb => (h.its.lt b (own_of hb)).2
  have hz := hc.size
  have nd := List.nodup_append.1 h.nd
  refine ⟨?_, ?_, ?_, ?_⟩
  · have e1 : (l ++ [k]).length = l.length + 1 := by simp
    have e2 : clipCells (l ++ [k]) = clipCells l ++ k.cells := by rw [clipCells_append]; simp [clipCells]
    rw [e1, e2]
    exact ho
  · intro c hc2
    rcases List.mem_append.1 hc2 with h1 | h1
    · refine owned_chg (owned_up (h.cs c h1) hu) hc (fun g hg h3 => ?_)
      exact nd.2.2 g h3 g (List.mem_flatMap.2 ⟨c, h1, own_mem hg⟩) rfl
    · rw [List.mem_singleton.1 h1]
      exact owned_chg hk hc (fun g hg h3 => by have := (hf g (own_mem hg)).1; have := hv g h3; omega)
  · intro c hc2 b hb2
    rcases List.mem_append.1 hc2 with h1 | h1
    · have := h.lo c h1 b hb2; exact ⟨this.1, by omega⟩
    · rw [List.mem_singleton.1 h1] at hb2
      have := hf b hb2; exact ⟨by omega, by omega⟩
  · have hg2 : ∀ b ∈ l.flatMap (fun c => own c.v), b ≠ g2 := fun b hb2 e => by
      obtain ⟨c, h1, h2⟩ := List.mem_flatMap.1 hb2
      rcases hat with h3 | h3
      · subst e; exact nd.2.2 b (own_mem h3) b hb2 rfl
      · have := (h.lo c h1 b h2).2; omega
    have hk2 : ∀ b ∈ own k.v, b ≠ g2 := fun b hb2 e => by
      rcases hat with h3 | h3
      · have := hv g2 (own_mem h3); have := (hf b hb2).1; omega
      · have := (hf b hb2).2; omega
    rw [List.flatMap_append]
    simp only [List.flatMap_cons, List.flatMap_nil, List.append_nil]
    refine List.nodup_append.2 ⟨own_nodup _, List.nodup_append.2 ⟨nd.2.1, own_nodup _, ?_⟩, ?_⟩
    · intro a ha b hb2 e
      subst e
      obtain ⟨c, h1, h2⟩ := List.mem_flatMap.1 ha
      have := (h.lo c h1 a h2).2
      have := (hf a hb2).1
      omega
    · intro a ha b hb2 e
      subst e
      have ha := own_of ha
      simp only [Value.ownBlock, Option.some.injEq] at ha
      subst ha
      rcases List.mem_append.1 hb2 with h1 | h1
      · exact hg2 _ h1 rfl
      · exact hk2 _ h1 rfl
theorem s2_of {w : World} {b : Nat} {x y : Value} (h : Row w b #[x, y]) : w.cell? ⟨b, 0, none⟩ = some x ∧ w.cell? ⟨b, 1, none⟩ = some y := ⟨h.cell 0 rfl, h.cell 1 rfl⟩
theorem take_map_succ {α β : Type} {f : α → β} {l : List α} {k : Nat} {c : α} (h : l[k]? = some c) : (l.take (k + 1)).map f = (l.take k).map f ++ [f c] := by
  obtain ⟨hlt, e⟩ := List.getElem?_eq_some_iff.1 h
  rw [List.take_succ_eq_append_getElem hlt, List.map_append, e]
  rfl
theorem _root_.Go.Proofs.YtoflafbhfoncmaaDoor.Chg.up_base {S : List Nat} {w w1 : World} (h : Chg S w w1) (hs : ∀ k ∈ S, w.heap.size ≤ k) : Up w w1 := ((Chg.of_up (S := []) (Up.refl w)).call h (fun k hk => Or.inr (hs k hk))).up
/-- the item's box and the result's -/
structure Boxes (k : Int) (pa : Option Addr) (pl pc : Nat) (sp p0 p1 p2 p3 : Int) (ca : Option Addr) (cl cc : Nat) (wd cp jn mt : Int) (da : Option Addr) (dl dc : Nat) (ph fn : Int) (m : M6) (ba : Option Addr) (bl bc : Nat) (B : Nat) (w : World) : Prop where
  r : Row w B #[.int .i64 k, .slice pa pl pc, .int .i64 sp, .int .i64 p0, .int .i64 p1, .int .i64 p2, .int .i64 p3, .slice ca cl cc, .int .i64 wd, .int .i64 cp, .int .i64 jn, .int .i64 mt, .slice da dl dc, .int .i64 ph, .int .i64 fn, .int .i64 m.a, .int .i64 m.b, .int .i64 m.c, .int .i64 m.d, .int .i64 m.x, .int .i64 m.y, .slice ba bl bc]
  z : Row w (B + 1) #[.int .i64 0, .slice none 0 0, .int .i64 0, .int .i64 0, .int .i64 0, .int .i64 0, .int .i64 0, .slice none 0 0, .int .i64 0, .int .i64 0, .int .i64 0, .int .i64 0, .slice none 0 0, .int .i64 0, .int .i64 0, .int .i64 0, .int .i64 0, .int .i64 0, .int .i64 0, .int .i64 0, .int .i64 0, .slice none 0 0]
theorem Boxes.up {k : Int} {pa : Option Addr} {pl pc : Nat} {sp p0 p1 p2 p3 : Int} {ca : Option Addr} {cl cc : Nat} {wd cp jn mt : Int} {da : Option Addr} {dl dc : Nat} {ph fn : Int} {m : M6} {ba : Option Addr} {bl bc : Nat} {B : Nat} {w w1 : World} (h : Boxes k pa pl pc sp p0 p1 p2 p3 ca cl cc wd cp jn mt da dl dc ph fn m ba bl bc B w) (hu : Up w w1) : Boxes k pa pl pc sp p0 p1 p2 p3 ca cl cc wd cp jn mt da dl dc ph fn m ba bl bc B w1 := ⟨h.r.up hu, h.z.up hu⟩
theorem Boxes.cells {k : Int} {pa : Option Addr} {pl pc : Nat} {sp p0 p1 p2 p3 : Int} {ca : Option Addr} {cl cc : Nat} {wd cp jn mt : Int} {da : Option Addr} {dl dc : Nat} {ph fn : Int} {m : M6} {ba : Option Addr} {bl bc : Nat} {B : Nat} {w : World} (h : Boxes k pa pl pc sp p0 p1 p2 p3 ca cl cc wd cp jn mt da dl dc ph fn m ba bl bc B w) : w.cell? ⟨B, 1, none⟩ = some (.slice pa pl pc) ∧ w.cell? ⟨B, 12, none⟩ = some (.slice da dl dc) ∧ w.cell? ⟨B, 21, none⟩ = some (.slice ba bl bc) ∧ w.frozen? ⟨B, 1, none⟩ = false ∧ w.frozen? ⟨B, 12, none⟩ = false ∧ w.frozen? ⟨B, 21, none⟩ = false ∧ B < w.heap.size :=
  ⟨h.r.cell 1 rfl, h.r.cell 12 rfl, h.r.cell 21 rfl, h.r.free 1, h.r.free 12, h.r.free 21, h.r.lt⟩
/-- what the three clones leave -/
structure Cloned (k : Int) (pa : Option Addr) (pl pc : Nat) (sp p0 p1 p2 p3 : Int) (ca : Option Addr) (cl cc : Nat) (wd cp jn mt : Int) (da : Option Addr) (dl dc : Nat) (ph fn : Int) (m : M6) (ba : Option Addr) (bl bc : Nat) (l : List Seg) (cs : List Clip) (ds bs : List Int) (w wx : World) (a8 : Option Addr) (c8 : Nat) (a11 : Option Addr) (c11 : Nat) (a15 : Option Addr) (c15 : Nat) : Prop where
  rf : Row wx w.heap.size #[.int .i64 k, .slice a8 pl c8, .int .i64 sp, .int .i64 p0, .int .i64 p1, .int .i64 p2, .int .i64 p3, .slice ca cl cc, .int .i64 wd, .int .i64 cp, .int .i64 jn, .int .i64 mt, .slice a15 dl c15, .int .i64 ph, .int .i64 fn, .int .i64 m.a, .int .i64 m.b, .int .i64 m.c, .int .i64 m.d, .int .i64 m.x, .int .i64 m.y, .slice a11 bl c11]
  rz : Row wx (w.heap.size + 1) #[.int .i64 0, .slice none 0 0, .int .i64 0, .int .i64 0, .int .i64 0, .int .i64 0, .int .i64 0, .slice none 0 0, .int .i64 0, .int .i64 0, .int .i64 0, .int .i64 0, .slice none 0 0, .int .i64 0, .int .i64 0, .int .i64 0, .int .i64 0, .int .i64 0, .int .i64 0, .int .i64 0, .int .i64 0, .slice none 0 0]
  pv : Path.Segs wx (.slice a8 pl c8) l
  bv : wx.ownsRow 0 5 1 (.slice a11 bl c11) bl (bs.map (Value.int .u8))
  dv : wx.ownsRow 0 3 1 (.slice a15 dl c15) dl (ds.map (Value.int .i64))
  nd : (own (.slice a8 pl c8) ++ (own (.slice a11 bl c11) ++ own (.slice a15 dl c15))).Nodup
  lo : ∀ g ∈ own (.slice a8 pl c8) ++ (own (.slice a11 bl c11) ++ own (.slice a15 dl c15)), w.heap.size + 2 ≤ g ∧ g < wx.heap.size
  up : Up w wx
theorem cloned_mk {k : Int} {pa : Option Addr} {pl pc : Nat} {sp p0 p1 p2 p3 : Int} {ca : Option Addr} {cl cc : Nat} {wd cp jn mt : Int} {da : Option Addr} {dl dc : Nat} {ph fn : Int} {m : M6} {ba : Option Addr} {bl bc : Nat} {l : List Seg} {cs : List Clip} {ds bs : List Int} {w wa wb wc wf : World} {a8 : Option Addr} {c8 : Nat} {a11 : Option Addr} {c11 : Nat} {a15 : Option Addr} {c15 : Nat} (hP : l.length = pl)
    (hA : wa.ownsRow 0 55 7 (.slice a8 pl c8) pl (segCells l)) (hfA : ∀ g ∈ own (.slice a8 pl c8), w.heap.size + 2 ≤ g ∧ g < wa.heap.size)
    (hB : wb.ownsRow 0 5 1 (.slice a11 bl c11) bl (bs.map (Value.int .u8))) (hfB : ∀ g ∈ own (.slice a11 bl c11), wa.heap.size ≤ g ∧ g < wb.heap.size)
    (hC : wc.ownsRow 0 3 1 (.slice a15 dl c15) dl (ds.map (Value.int .i64))) (hfC : ∀ g ∈ own (.slice a15 dl c15), wb.heap.size ≤ g ∧ g < wc.heap.size)
    (ub : Up wa wb) (uc : Up wb wc) (hcf : Chg [w.heap.size] wc wf) (u : Up w wc) (hs : w.heap.size + 2 ≤ wa.heap.size) (rf : Row wf w.heap.size #[.int .i64 k, .slice a8 pl c8, .int .i64 sp, .int .i64 p0, .int .i64 p1, .int .i64 p2, .int .i64 p3, .slice ca cl cc, .int .i64 wd, .int .i64 cp, .int .i64 jn, .int .i64 mt, .slice a15 dl c15, .int .i64 ph, .int .i64 fn, .int .i64 m.a, .int .i64 m.b, .int .i64 m.c, .int .i64 m.d, .int .i64 m.x, .int .i64 m.y, .slice a11 bl c11]) (rz : Row wf (w.heap.size + 1) #[.int .i64 0, .slice none 0 0, .int .i64 0, .int .i64 0, .int .i64 0, .int .i64 0, .int .i64 0, .slice none 0 0, .int .i64 0, .int .i64 0, .int .i64 0, .int .i64 0, .slice none 0 0, .int .i64 0, .int .i64 0, .int .i64 0, .int .i64 0, .int .i64 0, .int .i64 0, .int .i64 0, .int .i64 0, .slice none 0 0]) : Cloned k pa pl pc sp p0 p1 p2 p3 ca cl cc wd cp jn mt da dl dc ph fn m ba bl bc l cs ds bs w wf a8 c8 a11 c11 a15 c15 := by
  have zb := ub.size
  have zc := uc.size
  have zf := hcf.size
  have no : ∀ {v : Value}, (∀ g ∈ own v, w.heap.size + 2 ≤ g) → ∀ g, v.ownBlock = some g → g ∉ [w.heap.size] := fun h g hg h2 => by
    have := h g (own_mem hg)
    simp at h2
    omega
  refine ⟨rf, rz, ?_, ?_, ?_, ?_, ?_, (((Chg.of_up (S := []) u).call hcf (fun k hk => Or.inr (by simp at hk; omega))).up)⟩
  · have h1 := owned_chg (owned_up (owned_up hA ub) uc) hcf (no (fun g hg => (hfA g hg).1))
    show wf.ownsRow 0 _ 7 _ l.length _
    rw [hP]
    exact h1
  · exact owned_chg (owned_up hB uc) hcf (no (fun g hg => by have := hfB g hg; omega))
  · exact owned_chg hC hcf (no (fun g hg => by have := hfC g hg; omega))
  · refine List.nodup_append.2 ⟨own_nodup _, List.nodup_append.2 ⟨own_nodup _, own_nodup _, ?_⟩, ?_⟩
    · intro a ha b hb e
      have := hfB a ha; have := hfC b hb; omega
    · intro a ha b hb e
      have := hfA a ha
      rcases List.mem_append.1 hb with h1 | h1
      · have := hfB b h1; omega
      · have := hfC b h1; omega
  · intro g hg
    rcases List.mem_append.1 hg with h1 | h1
    · have := hfA g h1; exact ⟨by omega, by omega⟩
    rcases List.mem_append.1 h1 with h1 | h1
    · have := hfB g h1; exact ⟨by omega, by omega⟩
    · have := hfC g h1; exact ⟨by omega, by omega⟩

theorem own_mk {k : Int} {pa : Option Addr} {pl pc : Nat} {sp p0 p1 p2 p3 : Int} {ca : Option Addr} {cl cc : Nat} {wd cp jn mt : Int} {da : Option Addr} {dl dc : Nat} {ph fn : Int} {m : M6} {ba : Option Addr} {bl bc : Nat} {l : List Seg} {cs : List Clip} {ds bs : List Int} {w wf wr w3 : World} {a8 : Option Addr} {c8 : Nat} {a11 : Option Addr} {c11 : Nat} {a15 : Option Addr} {c15 : Nat} {a7 : Option Addr} {c7 : Nat} {l1 : List Clip} (h : Cloned k pa pl pc sp p0 p1 p2 p3 ca cl cc wd cp jn mt da dl dc ph fn m ba bl bc l cs ds bs w wf a8 c8 a11 c11 a15 c15) (hm : MidC wr wf.heap.size (.slice a7 cl c7) l1) (hN : l1.length = cl)
    (hd : l1.map (fun c => (c.l, c.eo)) = cs.map (fun c => (c.l, c.eo))) (hu : Up wf wr) (hc : Chg [w.heap.size, w.heap.size + 1] wr w3) :
    l1.map (fun c => (c.l, c.eo)) = cs.map (fun c => (c.l, c.eo)) ∧ Path.Segs w3 (.slice a8 pl c8) l ∧ w3.ownsRow 0 5 1 (.slice a11 bl c11) bl (bs.map (Value.int .u8)) ∧ w3.ownsRow 0 3 1 (.slice a15 dl c15) dl (ds.map (Value.int .i64)) ∧ w3.ownsRow 0 57 2 (.slice a7 cl c7) l1.length (clipCells l1) ∧ (∀ c ∈ l1, Path.Segs w3 c.v c.l) ∧
      (own (.slice a8 pl c8) ++ (own (.slice a11 bl c11) ++ (own (.slice a15 dl c15) ++ (own (.slice a7 cl c7) ++ l1.flatMap (fun c => own c.v))))).Nodup ∧ (∀ g ∈ own (.slice a8 pl c8) ++ (own (.slice a11 bl c11) ++ (own (.slice a15 dl c15) ++ (own (.slice a7 cl c7) ++ l1.flatMap (fun c => own c.v)))), w.heap.size ≤ g ∧ g < w3.heap.size) ∧ Up w w3 := by
  have zr := hu.size
  have z3 := hc.size
  have zw := h.up.size
  have zl : w.heap.size + 2 ≤ wf.heap.size := by have := h.rz.lt; omega
  have A : ∀ g ∈ own (.slice a8 pl c8), w.heap.size + 2 ≤ g ∧ g < wf.heap.size := fun g hg => h.lo g (by simp [hg])
  have B : ∀ g ∈ own (.slice a11 bl c11), w.heap.size + 2 ≤ g ∧ g < wf.heap.size := fun g hg => h.lo g (by simp [hg])
  have C : ∀ g ∈ own (.slice a15 dl c15), w.heap.size + 2 ≤ g ∧ g < wf.heap.size := fun g hg => h.lo g (by simp [hg])
  have D : ∀ g ∈ own (.slice a7 cl c7) ++ l1.flatMap (fun c => own c.v), wf.heap.size ≤ g ∧ g < wr.heap.size := fun g hg => by
    rcases List.mem_append.1 hg with h1 | h1
    · exact hm.its.lt g (own_of h1)
    · obtain ⟨c, hc1, hc2⟩ := List.mem_flatMap.1 h1
      exact hm.lo c hc1 g hc2
  have no : ∀ {v : Value}, (∀ g ∈ own v, w.heap.size + 2 ≤ g) → ∀ g, v.ownBlock = some g → g ∉ [w.heap.size, w.heap.size + 1] := fun hv g hg h2 => by
    have := hv g (own_mem hg)
    simp at h2
    omega
  have nd := List.nodup_append.1 h.nd
  have nd2 := List.nodup_append.1 nd.2.1
  refine ⟨hd, owned_chg (owned_up h.pv hu) hc (no (fun g hg => (A g hg).1)), owned_chg (owned_up h.bv hu) hc (no (fun g hg => (B g hg).1)), owned_chg (owned_up h.dv hu) hc (no (fun g hg => (C g hg).1)),
    owned_chg (owned_new hm.its).1 hc (no (fun g hg => by have := D g (List.mem_append_left _ hg); omega)), fun c hc1 => owned_chg (hm.cs c hc1) hc (no (fun g hg => by have := D g (List.mem_append_right _ (List.mem_flatMap.2 ⟨c, hc1, hg⟩)); omega)), ?_, ?_, ?_⟩
  · refine List.nodup_append.2 ⟨own_nodup _, List.nodup_append.2 ⟨own_nodup _, List.nodup_append.2 ⟨own_nodup _, hm.nd, ?_⟩, ?_⟩, ?_⟩
    · intro a ha b hb e
      have := C a ha; have := D b hb; omega
    · intro a ha b hb e
      rcases List.mem_append.1 hb with h1 | h1
      · exact nd2.2.2 a ha b h1 e
      · have := B a ha; have := D b h1; omega
    · intro a ha b hb e
      rcases List.mem_append.1 hb with h1 | h1
      · exact nd.2.2 a ha b (List.mem_append_left _ h1) e
      rcases List.mem_append.1 h1 with h1 | h1
      · exact nd.2.2 a ha b (List.mem_append_right _ h1) e
      · have := A a ha; have := D b h1; omega
  · intro g hg
    rcases List.mem_append.1 hg with h1 | h1
    · have := A g h1; exact ⟨by omega, by omega⟩
    rcases List.mem_append.1 h1 with h1 | h1
    · have := B g h1; exact ⟨by omega, by omega⟩
    rcases List.mem_append.1 h1 with h1 | h1
    · have := C g h1; exact ⟨by omega, by omega⟩
    · have := D g h1; exact ⟨by omega, by omega⟩
  · exact ((Chg.of_up (S := []) (Up.call h.up hu)).call hc (fun k hk => Or.inr (by simp at hk; omega))).up

end Go.Proofs.YtoflafbhfoncmaaDoor.Pt
end
