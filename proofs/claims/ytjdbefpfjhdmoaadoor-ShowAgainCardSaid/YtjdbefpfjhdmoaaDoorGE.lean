/- The reference's state and canvas in memory, and what Letters leaves of them. No condition. Two arrays of six integers are compared cell by cell. No condition. Items of letters compared: those that are the same. No condition. paint.owns of letters, a canvas' Items. Its condition: no more items than a page has, bytes that an append bears. Lists of letters compared; law 16's agree. Its condition: what is in both is the same; no more items than a page has. show.Show at a place, whatever comes. Its conditions: the fonts' names lie as they are laid; a length that a string has; room on the page. Program and reference together in memory, and what Show and Letters leave of both. Its conditions: the fonts' names lie as they are laid; a length that a string has; room on the page. -/
import Derived.Test.YtjdbefpfjhdmoaaDoorGC
import Derived.Test.YtjdbefpfjhdmoaaDoorGG
import Derived.Test.YtjdbefpfjhdmoaaDoorFix
import Derived.ChangeKeysEq
import Derived.Test.YtjdbefpfjhdmoaaDoorGB
import Derived.OwnWalk
import Derived.Deep.RegionHeld3
import Derived.Test.YtjdbefpfjhdmoaaDoorGShT2
namespace Go.Proofs.YtjdbefpfjhdmoaaDoor.ZGE
open Go.ChangeShapes Go.WideShapes Go.ChangeAt Go.RowKit
theorem ra {w : World} {b : Nat} {cs : Array Value} (h : Row w b cs := by (repeat' (with_reducible first | assumption | (refine Row.at _ _ ?_; (simp; done)) | refine Row.alloc ?_ _ | refine Row.drew ?_ | refine Row.drewN ?_ _ | refine Row.other ?_ (by first | (simp; done) | (simp; omega) | omega) _ | refine Row.up ?_ (by assumption) | refine Row.chg ?_ (by assumption) (by first | (simp; done) | (simp; omega))))) : Row w b cs := h
theorem ua {w v : World} (h : Up w v := by (repeat' (first | (with_reducible first | exact Up.refl _ | assumption | refine Up.alloc ?_ _ | refine Up.drew ?_ | refine Up.drewN ?_ _ | refine Up.setCell ?_ ?_ _ | refine Up.call ?_ (by assumption)) | go_size))) : Up w v := h
end Go.Proofs.YtjdbefpfjhdmoaaDoor.ZGE
section
namespace Go.Proofs.YtjdbefpfjhdmoaaDoor.Sh
open Go.ChangeShapes Go.WideShapes Go.ChangeAt Go.RowKit
open Go.Proofs.YtjdbefpfjhdmoaaDoor.Gs
open Go.Proofs.YtjdbefpfjhdmoaaDoor.MatM (M6)
open Go.Proofs.YtjdbefpfjhdmoaaDoor.PathM
set_option linter.unusedVariables false
set_option linter.unusedSimpArgs false

/-- the reference's state and canvas -/
structure Ref (w : World) (s m : Nat) (C : M6) (F : Int) (FM : M6) (dk : Bool) (n : Int) (vl rv : Value) (T : St) (l : List Cl) : Prop where
  rs : Row w s (rsC C F FM dk n vl)
  rm : Row w m (cvC rv)
  sg : Path.Segs w vl T.l
  its : Its w rv l
  bytes : Bys w l
  lb : ∀ k ∈ l, 0 < k.it.bs.length
  sm : s ≠ m
  off : ∀ b ∈ own vl ++ own rv ++ bys l, b ≠ s ∧ b ≠ m
section
variable {w w1 w2 w3 : World} {s m : Nat} {C : M6} {F : Int} {FM : M6} {dk : Bool} {n : Int} {vl rv : Value} {T : St} {l : List Cl}
theorem vl_lt {t : List Seg} (h : Path.Segs w vl t) : ∀ b ∈ own vl, b < w.heap.size := fun b hb => by
  rcases h.form with ⟨rfl, _⟩ | ⟨g', cap, rfl, _, _, h1⟩
  · simp [own, Value.ownBlock] at hb
  · simp [own, Value.ownBlock] at hb; omega
theorem Ref.lt (h : Ref w s m C F FM dk n vl rv T l) : ∀ b ∈ own vl ++ own rv ++ bys l, b < w.heap.size := fun b hb => by
  rcases List.mem_append.1 hb with hb | hb
  · rcases List.mem_append.1 hb with hb | hb
    · exact vl_lt h.sg b hb
    · exact own_lt h.its b hb
  · exact bys_lt h.bytes h.lb b hb
theorem Ref.chg (h : Ref w s m C F FM dk n vl rv T l) {S : List Nat} (hc : Chg S w w1) (h1 : s ∉ S) (h2 : m ∉ S) (h3 : ∀ b ∈ own vl ++ own rv ++ bys l, b ∉ S) : Ref w1 s m C F FM dk n vl rv T l :=
  ⟨h.rs.chg hc h1, h.rm.chg hc h2, h.sg.chg hc (fun g hg => h3 g (by simp [own_mem hg])), owned_chg h.its hc (fun g hg => h3 g (by simp [own_mem hg])), h.bytes.chg hc (fun g hg => h3 g (by simp [hg])), h.lb, h.sm, h.off⟩
theorem Ref.up (h : Ref w s m C F FM dk n vl rv T l) (hc : Up w w1) : Ref w1 s m C F FM dk n vl rv T l := h.chg (S := []) (Chg.of_up hc) (by simp) (by simp) (by simp)
/-- what Letters leaves -/
def Lettered (w : World) (s m : Nat) (C : M6) (F : Int) (FM : M6) (dk : Bool) (n : Int) (vl rv : Value) (l : List Cl) (T' : St) (its : List It) (w' : World) : Prop :=
  ∃ vl' rv' l', Ref w' s m C F FM dk n vl' rv' T' l' ∧ l'.map (·.it) = l.map (·.it) ++ its ∧ Chg [s, m] w w' ∧ ∀ b ∈ own vl' ++ own rv' ++ bys l', b ∈ own vl ++ own rv ++ bys l ∨ w.heap.size ≤ b
theorem Lettered.same (h : Ref w s m C F FM dk n vl rv T l) (hu : Up w w1) : Lettered w s m C F FM dk n vl rv l T [] w1 :=
  ⟨vl, rv, l, h.up hu, by simp, Chg.of_up hu, fun b hb => Or.inl hb⟩
theorem Lettered.moved (h : Ref w s m C F FM dk n vl rv T l) (hu : Up w w1) {v6 : Value} {T' : St} (hs : Path.Segs w1 v6 T'.l) (ho : ∀ b ∈ own v6, b ∈ own vl ∨ w.heap.size ≤ b) (hr : Row w2 s (rsC C F FM dk n v6)) (hc : Chg [s] w1 w2) : Lettered w s m C F FM dk n vl rv l T' [] w2 := by
  have h1 := h.up hu
  have l1 := h.rs.lt
  have l2 := h.rm.lt
  have h6 : ∀ b ∈ own v6, b ≠ s ∧ b ≠ m := fun b hb => by
    rcases ho b hb with h2 | h2
    · exact h.off b (by simp [h2])
    · exact ⟨by omega, by omega⟩
  refine ⟨v6, rv, l, ⟨hr, h1.rm.chg hc (by simpa using h.sm.symm), hs.chg hc (fun g hg => by simpa using (h6 g (own_mem hg)).1), owned_chg h1.its hc (fun g hg => by simpa using (h.off g (by simp [own_mem hg])).1), h1.bytes.chg hc (fun g hg => by simpa using (h.off g (by simp [hg])).1), h.lb, h.sm, ?_⟩, by simp, ?_, ?_⟩
  · intro b hb
    rcases List.mem_append.1 hb with hb | hb
    · rcases List.mem_append.1 hb with hb | hb
      · exact h6 b hb
      · exact h.off b (by simp [hb])
    · exact h.off b (by simp [hb])
  · exact (Chg.of_up (S := [s, m]) hu).call hc (fun k hk => Or.inl (by simp at hk; simp [hk]))
  · intro b hb
    rcases List.mem_append.1 hb with hb | hb
    · rcases List.mem_append.1 hb with hb | hb
      · exact (ho b hb).imp (fun h => by simp [h]) id
      · exact Or.inl (by simp [hb])
    · exact Or.inl (by simp [hb])
theorem Lettered.laid (h : Ref w s m C F FM dk n vl rv T l) (hu : Up w w1) {k : Cl} (h0 : 0 < k.it.bs.length) (hk : Ints .u8 w1 k.bv k.it.bs) (hkn : ∀ b ∈ own k.bv, w.heap.size ≤ b)
    {rv' : Value} (hm : Row w2 m (cvC rv')) (hi : Its w2 rv' (l ++ [k])) (hcm : Chg [m] w1 w2) (hf : ∀ g ∈ own rv', w.heap.size ≤ g)
    {v6 : Value} {T' : St} (hs : Path.Segs w1 v6 T'.l) (ho : ∀ b ∈ own v6, b ∈ own vl ∨ w.heap.size ≤ b) (hr : Row w3 s (rsC C F FM dk n v6)) (hc : Chg [s] w2 w3) : Lettered w s m C F FM dk n vl rv l T' [k.it] w3 := by
  have h1 := h.up hu
  have l1 := h.rs.lt
  have l2 := h.rm.lt
  have h6 : ∀ b ∈ own v6, b ≠ s ∧ b ≠ m := fun b hb => by
    rcases ho b hb with h2 | h2
    · exact h.off b (by simp [h2])
    · exact ⟨by omega, by omega⟩
  have h7 : ∀ b ∈ bys (l ++ [k]), b ≠ s ∧ b ≠ m := fun b hb => by
    rw [bys_append] at hb
    rcases List.mem_append.1 hb with h2 | h2
    · exact h.off b (by simp [h2])
    · have := hkn b (by simpa [bys] using h2)
      exact ⟨by omega, by omega⟩
  have hb1 : Bys w1 (l ++ [k]) := fun k2 hk2 => by
    rcases List.mem_append.1 hk2 with h2 | h2
    · exact h1.bytes k2 h2
    · rw [List.mem_singleton.1 h2]; exact hk
  refine ⟨v6, rv', l ++ [k], ⟨hr, hm.chg hc (by simpa using h.sm.symm), (hs.chg hcm (fun g hg => by simpa using (h6 g (own_mem hg)).2)).chg hc (fun g hg => by simpa using (h6 g (own_mem hg)).1), owned_chg hi hc (fun g hg => by have := hf g (own_mem hg); simp; omega), (hb1.chg hcm (fun g hg => by simpa using (h7 g hg).2)).chg hc (fun g hg => by simpa using (h7 g hg).1), ?_, h.sm, ?_⟩, by simp, ?_, ?_⟩
  · intro k2 hk2
    rcases List.mem_append.1 hk2 with h2 | h2
    · exact h.lb k2 h2
    · rw [List.mem_singleton.1 h2]; exact h0
  · intro b hb
    rcases List.mem_append.1 hb with hb | hb
    · rcases List.mem_append.1 hb with hb | hb
      · exact h6 b hb
      · have := hf b hb
        exact ⟨by omega, by omega⟩
    · exact h7 b hb
  · exact ((Chg.of_up (S := [s, m]) hu).call hcm (fun k hk => Or.inl (by simp at hk; simp [hk]))).call hc (fun k hk => Or.inl (by simp at hk; simp [hk]))
  · intro b hb
    rcases List.mem_append.1 hb with hb | hb
    · rcases List.mem_append.1 hb with hb | hb
      · exact (ho b hb).imp (fun h => by simp [h]) id
      · exact Or.inr (hf b hb)
    · rw [bys_append] at hb
      rcases List.mem_append.1 hb with h2 | h2
      · exact Or.inl (by simp [h2])
      · exact Or.inr (hkn b (by simpa [bys] using h2))
end
theorem info8b : (Tryd.prog.info? 5).map (fun i => (i.zero, i.size, i.bytes)) = some (some (.int .u8 0), 1, 1) := by kernel_rfl
theorem made_by {w : World} {g base : Nat} (e : g = w.heap.size) (hb : base ≤ g) : (w.alloc (.cells #[] 5)).ownsRow base 5 1 (.slice (some ⟨g, 0, none⟩) 0 0) 0 [] := by
  subst e
  exact World.ownsRow_made w #[] 0 hb (by decide) rfl
def byC (zs : List Int) : List Value := zs.map (fun z => .int .u8 z)
theorem byC_one (zs : List Int) : ∀ u ∈ byC zs, u.oneCell' = true := fun u hu => by
  obtain ⟨z, _, rfl⟩ := List.mem_map.1 hu
  rfl
/-- the bytes that are appended, and those that are had -/
theorem by_news {w : World} {a : Option Addr} {N c : Nat} {zs : List Int} (h : Ints .u8 w (.slice a N c) zs) (hN : zs.length = N) : ∀ ad, a = some ad → ∀ j u, (byC zs)[j]? = some u → ∀ w1, Up w w1 → w1.cell? (ad.add j) = some u := by
  intro ad e j u hj w1 hu
  subst e
  have hj2 : j < zs.length := by
    have := (List.getElem?_eq_some_iff.1 hj).1
    simpa [byC] using this
  obtain ⟨ao, c', e, hl, hm, hno, h1, hw⟩ := h.up hu
  injection e with e1 e2 e3
  obtain ⟨g, o, h2, h3, h4⟩ := h1 (by omega)
  subst h2
  injection e1 with e1
  subst e1
  have h5 := h4 j hj2
  have hu2 : u = .int .u8 (zs.getD j 0) := by
    have : (byC zs)[j]? = some (.int .u8 (zs.getD j 0)) := by simp [byC, hj2]
    rw [this] at hj
    injection hj with hj
    exact hj.symm
  rw [hu2, ← h5, Addr.add_mid]
theorem by_none {w : World} {a : Option Addr} {N c : Nat} {zs : List Int} (h : Ints .u8 w (.slice a N c) zs) (hN : zs.length = N) : a = none → N = 0 ∧ c = 0 := by
  intro e
  obtain ⟨ao, c', e2, hl, hm, hno, h1, hw⟩ := h
  injection e2 with e1 e2 e3
  subst e1 e3
  have := hno e
  exact ⟨by rw [e2, this.1]; rfl, this.2⟩
theorem by_had {w : World} {base N n0 : Nat} {v : Value} {zs : List Int} (h : w.ownsRow base 5 1 v n0 (byC zs)) (hn : n0 = N) (hN : zs.length = N) (hw : ∀ z ∈ zs, (Lit.int .u8 z).wf = true) : ∃ a c, v = .slice a N c ∧ Ints .u8 w v zs ∧ ∀ g ∈ own v, base ≤ g := by
  subst hn
  rcases h.2 with ⟨rfl, h2⟩ | ⟨g, cap, cur, rfl, hb, hg, h3, h4, h5, h6⟩
  · have : zs = [] := List.eq_nil_of_length_eq_zero (by omega)
    subst this
    subst h2
    exact ⟨none, 0, rfl, ints_nil _ _, fun g hg => by simp [own, Value.ownBlock] at hg⟩
  · refine ⟨some ⟨g, 0, none⟩, cap, rfl, ?_, fun g' hg' => by simp [own, Value.ownBlock] at hg'; omega⟩
    rw [← hN]
    refine ⟨some ⟨g, 0, none⟩, cap, rfl, by omega, by unfold maxLen at h4; exact h4, fun e => (by cases e), fun h0 => ⟨g, 0, rfl, (Array.getElem?_eq_some_iff.1 hg).1, fun i hi => ?_⟩, hw⟩
    have hc := (h : World.ownsRow _ _ _ _ _ _ _).cellAt i (by omega)
    rw [Nat.zero_add, hc]
    simp [byC, hi]

end Go.Proofs.YtjdbefpfjhdmoaaDoor.Sh
end

section
namespace Go.Proofs.YtjdbefpfjhdmoaaDoor
open Go.RowKit

theorem infoInt : (Tryd.prog.info? 3).isSome = true := by kernel_rfl
theorem plainInt : Tryd.prog.plainKey 3 = true := by kernel_rfl
theorem cellsInt : Tryd.prog.cellsOf 3 = 1 := by kernel_rfl
/-- six numbers are six numbers -/
def all6 (x0 x1 x2 x3 x4 x5 y0 y1 y2 y3 y4 y5 : Int) : Bool := x0 == y0 && (x1 == y1 && (x2 == y2 && (x3 == y3 && (x4 == y4 && x5 == y5))))
theorem all6_iff (x0 x1 x2 x3 x4 x5 y0 y1 y2 y3 y4 y5 : Int) : all6 x0 x1 x2 x3 x4 x5 y0 y1 y2 y3 y4 y5 = true ↔ x0 = y0 ∧ x1 = y1 ∧ x2 = y2 ∧ x3 = y3 ∧ x4 = y4 ∧ x5 = y5 := by simp [all6]
theorem item (xs ys : Array Value) (j : Nat) (is : List Nat) (x y : Int) {w : World} (hx : xs[j * 1]? = some (.int .i64 x)) (hy : ys[j * 1]? = some (.int .i64 y)) :
    (Op.eqItems 9999 3 1 xs ys (j :: is)).run Tryd.prog w = bif x == y then (Op.eqItems 9999 3 1 xs ys is).run Tryd.prog w else .ok false w := by
  simp only [Op.eqItems, Sem.run_bind]
  rw [run_part_plain w plainInt hx]
  simp only [Result.andThen_ok]
  rw [run_part_plain w plainInt hy]
  simp only [Result.andThen_ok]
  rw [run_equalIn_int w 9998 _ _ _ x y Tryd.underlying3]
  simp only [Result.andThen_ok]
  cases (x == y) <;> simp [Sem.run_pure]
theorem run_eq6 (x0 x1 x2 x3 x4 x5 y0 y1 y2 y3 y4 y5 : Int) (w : World) :
    (Op.equalIn 10000 22 (.agg #[.int .i64 x0, .int .i64 x1, .int .i64 x2, .int .i64 x3, .int .i64 x4, .int .i64 x5]) (.agg #[.int .i64 y0, .int .i64 y1, .int .i64 y2, .int .i64 y3, .int .i64 y4, .int .i64 y5])).run Tryd.prog w
      = .ok (all6 x0 x1 x2 x3 x4 x5 y0 y1 y2 y3 y4 y5) w := by
  obtain ⟨i, hi⟩ := Option.isSome_iff_exists.1 infoInt
  rw [show (10000 : Nat) = 9999 + 1 from rfl, run_equalIn_array (w := w) 9999 _ _ Tryd.underlying22 hi, cellsInt, show List.range 6 = [0, 1, 2, 3, 4, 5] from rfl]
  rw [item _ _ 0 _ x0 y0 rfl rfl, item _ _ 1 _ x1 y1 rfl rfl, item _ _ 2 _ x2 y2 rfl rfl, item _ _ 3 _ x3 y3 rfl rfl, item _ _ 4 _ x4 y4 rfl rfl, item _ _ 5 _ x5 y5 rfl rfl]
  simp only [Op.eqItems, Sem.run_pure]
  unfold all6
  cases (x0 == y0) <;> cases (x1 == y1) <;> cases (x2 == y2) <;> cases (x3 == y3) <;> cases (x4 == y4) <;> cases (x5 == y5) <;> rfl

end Go.Proofs.YtjdbefpfjhdmoaaDoor
end

section
namespace Go.Proofs.YtjdbefpfjhdmoaaDoor.Sh
open Go.Proofs.YtjdbefpfjhdmoaaDoor.ZGE
open Go.ChangeShapes Go.WideShapes Go.ChangeAt Go.RowKit
open Go.Proofs.YtjdbefpfjhdmoaaDoor.Gs
open Go.Proofs.YtjdbefpfjhdmoaaDoor.MatM (M6)
open Go.Proofs.YtjdbefpfjhdmoaaDoor.PathM
set_option linter.unusedVariables false
set_option linter.unusedSimpArgs false

theorem ints_at {k : IntKind} {w : World} {a : Option Addr} {N c : Nat} {zs : List Int} (h : Ints k w (.slice a N c) zs) (hN : zs.length = N) (h0 : 0 < N) : ∃ g o, a = some ⟨g, o, none⟩ ∧ g < w.heap.size ∧ ∀ i, i < N → w.cell? ⟨g, o + i, none⟩ = some (.int k (zs.getD i 0)) := by
  obtain ⟨ao, c', e, hl, hm, hno, h1, hw⟩ := h
  injection e with e1 e2 e3
  subst e1 e3
  obtain ⟨g, o, h2, h3, h4⟩ := h1 (by omega)
  exact ⟨g, o, h2, h3, fun i hi => h4 i (by omega)⟩
theorem sameB_nil (a1 a2 : Option Addr) (c1 c2 : Nat) (w : World) : Calls Tryd.prog 67 #[.slice a1 0 c1, .slice a2 0 c2] w fun E w' => E = .returned (.bool true) ∧ Up w w' := by
  go_enter Tryd.func67, Tryd.ntmps67
  go_wp2
  go_loop [5] (fun s5 => s5 = .int .i64 0) (fun _ => 0)
  case atStart => rfl
  case round =>
    obtain rfl := hrel
    go_wp2
    go_ret
    exact ⟨rfl, by exact ua⟩
theorem sameB_calls (a1 a2 : Option Addr) (N c1 c2 : Nat) (zs : List Int) (w : World) (hN : zs.length = N) (hl : N ≤ 1000000000) (h1 : Ints .u8 w (.slice a1 N c1) zs) (h2 : Ints .u8 w (.slice a2 N c2) zs) :
    Calls Tryd.prog 67 #[.slice a1 N c1, .slice a2 N c2] w fun E w' => E = .returned (.bool true) ∧ Up w w' := by
  by_cases h0 : 0 < N
  rotate_left
  · obtain rfl : N = 0 := by omega
    exact sameB_nil a1 a2 c1 c2 w
  obtain ⟨g1, o1, rfl, hg1, hc1⟩ := ints_at h1 hN h0
  obtain ⟨g2, o2, rfl, hg2, hc2⟩ := ints_at h2 hN h0
  have HC1 := Lib.hid hc1
  have HC2 := Lib.hid hc2
  clear h1 h2 hc1 hc2 h0 hN
  go_enter Tryd.func67, Tryd.ntmps67
  go_wp2
  go_loopw [5] (fun i wr => ∃ k : Nat, k ≤ N ∧ i = .int .i64 k ∧ Up w wr) (fun i _ => N - (intOf i).toNat)
  case atStart => exact ⟨0, Nat.zero_le _, rfl, Up.refl _⟩
  case round =>
    obtain ⟨k, hk, rfl, hup⟩ := hrel
    by_cases hlt : k < N
    · obtain ⟨x, hx⟩ : ∃ x, zs.getD k 0 = x := ⟨_, rfl⟩
      have hq1 := (hup.cells.1 g1 (o1 + k) hg1).trans (HC1.out k hlt)
      have hq2 := (hup.cells.1 g2 (o2 + k) hg2).trans (HC2.out k hlt)
      rw [hx] at hq1 hq2
      clear hx
      have hz := hup.size
      go_wp2
      go_quiet (fail)
      go_wp2
      go_roundw
      case rel => exact ⟨k + 1, by omega, by go_num, by exact ua⟩
      case measure => simp [intOf]; omega
    · obtain rfl : k = N := by omega
      go_wp2
      go_ret
      exact ⟨rfl, by exact ua⟩
theorem sameI_nil (w : World) : Calls Tryd.prog 91 #[.slice none 0 0, .slice none 0 0] w fun E w' => E = .returned (.bool true) ∧ Up w w' := by
  go_enter Tryd.func91, Tryd.ntmps91
  go_wp2
  go_loop [5] (fun s5 => s5 = .int .i64 0) (fun _ => 0)
  case atStart => rfl
  case round =>
    obtain rfl := hrel
    go_wp2
    go_ret
    exact ⟨rfl, by exact ua⟩
theorem sameC_nil (a1 a2 : Option Addr) (c1 c2 : Nat) (w : World) : Calls Tryd.prog 65 #[.slice a1 0 c1, .slice a2 0 c2] w fun E w' => E = .returned (.bool true) ∧ Up w w' := by
  go_enter Tryd.func65, Tryd.ntmps65
  go_wp2
  go_loop [5] (fun s5 => s5 = .int .i64 0) (fun _ => 0)
  case atStart => rfl
  case round =>
    obtain rfl := hrel
    go_wp2
    go_ret
    exact ⟨rfl, by exact ua⟩

set_option maxRecDepth 8000 in
set_option maxHeartbeats 1000000 in
theorem samePen_zero (w : World) : Calls Tryd.prog 66 #[.agg #[.int .i64 0, .int .i64 0, .int .i64 0, .int .i64 0, .slice none 0 0, .int .i64 0], .agg #[.int .i64 0, .int .i64 0, .int .i64 0, .int .i64 0, .slice none 0 0, .int .i64 0]] w fun E w' => E = .returned (.bool true) ∧ Up w w' := by
  go_enter Tryd.func66, Tryd.ntmps66
  go_wp2_with (go_at_call 91; ((with_reducible refine (sameI_nil _).mono ?_); rintro E w1 ⟨rfl, hu1⟩; have RP_w1 : Row w1 w.heap.size #[.int .i64 0, .int .i64 0, .int .i64 0, .int .i64 0, .slice none 0 0, .int .i64 0] := Row.up (show Row _ w.heap.size #[.int .i64 0, .int .i64 0, .int .i64 0, .int .i64 0, .slice none 0 0, .int .i64 0] by exact ra) hu1; have lP_w1 := RP_w1.lt; have cP_w1_5 : w1.cell? ⟨w.heap.size, 5, none⟩ = some (.int .i64 0) := RP_w1.cell 5 rfl; have RQ_w1 : Row w1 (w.heap.size + 1) #[.int .i64 0, .int .i64 0, .int .i64 0, .int .i64 0, .slice none 0 0, .int .i64 0] := Row.up (show Row _ (w.heap.size + 1) #[.int .i64 0, .int .i64 0, .int .i64 0, .int .i64 0, .slice none 0 0, .int .i64 0] by exact ra) hu1; have lQ_w1 := RQ_w1.lt; have cQ_w1_5 : w1.cell? ⟨w.heap.size + 1, 5, none⟩ = some (.int .i64 0) := RQ_w1.cell 5 rfl))
  go_ret
  exact ⟨rfl, by exact ua⟩

theorem eqCol (w : World) : (Op.equalIn 10000 33 (.agg #[.int .i64 1, .int .i64 0, .int .i64 0, .int .i64 0, .int .i64 0]) (.agg #[.int .i64 1, .int .i64 0, .int .i64 0, .int .i64 0, .int .i64 0])).run Tryd.prog w = .ok true w := by kernel_rfl
set_option maxRecDepth 8000 in
set_option maxHeartbeats 4000000 in
theorem sameItem_calls (fn : Int) (m : M6) (ca ca2 ba ba2 : Option Addr) (cc cc2 bc bc2 N : Nat) (zs : List Int) (w : World) (hN : zs.length = N) (hl : N ≤ 1000000000) (h1 : Ints .u8 w (.slice ba N bc) zs) (h2 : Ints .u8 w (.slice ba2 N bc2) zs) :
    Calls Tryd.prog 39 #[.agg #[.int .i64 4, .slice none 0 0, .int .i64 1, .int .i64 0, .int .i64 0, .int .i64 0, .int .i64 0, .slice ca 0 cc, .int .i64 0, .int .i64 0, .int .i64 0, .int .i64 0, .slice none 0 0, .int .i64 0, .int .i64 fn, .int .i64 m.a, .int .i64 m.b, .int .i64 m.c, .int .i64 m.d, .int .i64 m.x, .int .i64 m.y, .slice ba N bc], .agg #[.int .i64 4, .slice none 0 0, .int .i64 1, .int .i64 0, .int .i64 0, .int .i64 0, .int .i64 0, .slice ca2 0 cc2, .int .i64 0, .int .i64 0, .int .i64 0, .int .i64 0, .slice none 0 0, .int .i64 0, .int .i64 fn, .int .i64 m.a, .int .i64 m.b, .int .i64 m.c, .int .i64 m.d, .int .i64 m.x, .int .i64 m.y, .slice ba2 N bc2]] w fun E w' => E = .returned (.bool true) ∧ Up w w' := by
  have H1 := Lib.hid h1
  have H2 := Lib.hid h2
  have HN := Lib.hid hN
  have HSN := Lib.hid (show ∀ w, Path.SegV w (.slice none 0 0) [] from fun w => Or.inl ⟨none, 0, rfl, rfl⟩)
  have eqC := eqCol
  have eqM : ∀ w, (Op.equalIn 10000 22 (.agg #[.int .i64 m.a, .int .i64 m.b, .int .i64 m.c, .int .i64 m.d, .int .i64 m.x, .int .i64 m.y]) (.agg #[.int .i64 m.a, .int .i64 m.b, .int .i64 m.c, .int .i64 m.d, .int .i64 m.x, .int .i64 m.y])).run Tryd.prog w = .ok true w := fun w => by
    rw [run_eq6]
    simp [all6]
  clear h1 h2 hN
  go_enter Tryd.func39, Tryd.ntmps39
  go_wp2_with (first
    | (go_at_call 15; ((with_reducible refine (Path.same_calls _ _ [] [] _ (HSN.out _) (HSN.out _)).mono ?_); rw [decide_eq_true (rfl : ([] : List Seg) = [])]; rintro E w1 ⟨rfl, hu1⟩; have RA_w1 : Row w1 w.heap.size #[.int .i64 4, .slice none 0 0, .int .i64 1, .int .i64 0, .int .i64 0, .int .i64 0, .int .i64 0, .slice ca 0 cc, .int .i64 0, .int .i64 0, .int .i64 0, .int .i64 0, .slice none 0 0, .int .i64 0, .int .i64 fn, .int .i64 m.a, .int .i64 m.b, .int .i64 m.c, .int .i64 m.d, .int .i64 m.x, .int .i64 m.y, .slice ba N bc] := Row.up (show Row _ w.heap.size #[.int .i64 4, .slice none 0 0, .int .i64 1, .int .i64 0, .int .i64 0, .int .i64 0, .int .i64 0, .slice ca 0 cc, .int .i64 0, .int .i64 0, .int .i64 0, .int .i64 0, .slice none 0 0, .int .i64 0, .int .i64 fn, .int .i64 m.a, .int .i64 m.b, .int .i64 m.c, .int .i64 m.d, .int .i64 m.x, .int .i64 m.y, .slice ba N bc] by exact ra) hu1; have lA_w1 := RA_w1.lt; have cA_w1_2 : w1.cell? ⟨w.heap.size, 2, none⟩ = some (.int .i64 1) := RA_w1.cell 2 rfl; have cA_w1_3 : w1.cell? ⟨w.heap.size, 3, none⟩ = some (.int .i64 0) := RA_w1.cell 3 rfl; have cA_w1_4 : w1.cell? ⟨w.heap.size, 4, none⟩ = some (.int .i64 0) := RA_w1.cell 4 rfl; have cA_w1_5 : w1.cell? ⟨w.heap.size, 5, none⟩ = some (.int .i64 0) := RA_w1.cell 5 rfl; have cA_w1_6 : w1.cell? ⟨w.heap.size, 6, none⟩ = some (.int .i64 0) := RA_w1.cell 6 rfl; have cA_w1_7 : w1.cell? ⟨w.heap.size, 7, none⟩ = some (.slice ca 0 cc) := RA_w1.cell 7 rfl; have RB_w1 : Row w1 (w.heap.size + 1) #[.int .i64 4, .slice none 0 0, .int .i64 1, .int .i64 0, .int .i64 0, .int .i64 0, .int .i64 0, .slice ca2 0 cc2, .int .i64 0, .int .i64 0, .int .i64 0, .int .i64 0, .slice none 0 0, .int .i64 0, .int .i64 fn, .int .i64 m.a, .int .i64 m.b, .int .i64 m.c, .int .i64 m.d, .int .i64 m.x, .int .i64 m.y, .slice ba2 N bc2] := Row.up (show Row _ (w.heap.size + 1) #[.int .i64 4, .slice none 0 0, .int .i64 1, .int .i64 0, .int .i64 0, .int .i64 0, .int .i64 0, .slice ca2 0 cc2, .int .i64 0, .int .i64 0, .int .i64 0, .int .i64 0, .slice none 0 0, .int .i64 0, .int .i64 fn, .int .i64 m.a, .int .i64 m.b, .int .i64 m.c, .int .i64 m.d, .int .i64 m.x, .int .i64 m.y, .slice ba2 N bc2] by exact ra) hu1; have lB_w1 := RB_w1.lt; have cB_w1_2 : w1.cell? ⟨w.heap.size + 1, 2, none⟩ = some (.int .i64 1) := RB_w1.cell 2 rfl; have cB_w1_3 : w1.cell? ⟨w.heap.size + 1, 3, none⟩ = some (.int .i64 0) := RB_w1.cell 3 rfl; have cB_w1_4 : w1.cell? ⟨w.heap.size + 1, 4, none⟩ = some (.int .i64 0) := RB_w1.cell 4 rfl; have cB_w1_5 : w1.cell? ⟨w.heap.size + 1, 5, none⟩ = some (.int .i64 0) := RB_w1.cell 5 rfl; have cB_w1_6 : w1.cell? ⟨w.heap.size + 1, 6, none⟩ = some (.int .i64 0) := RB_w1.cell 6 rfl; have cB_w1_7 : w1.cell? ⟨w.heap.size + 1, 7, none⟩ = some (.slice ca2 0 cc2) := RB_w1.cell 7 rfl; have z1 := hu1.size))
    | (go_at_call 65; ((with_reducible refine (sameC_nil _ _ _ _ _).mono ?_); rintro E w2 ⟨rfl, hu2⟩; have RA_w2 : Row w2 w.heap.size #[.int .i64 4, .slice none 0 0, .int .i64 1, .int .i64 0, .int .i64 0, .int .i64 0, .int .i64 0, .slice ca 0 cc, .int .i64 0, .int .i64 0, .int .i64 0, .int .i64 0, .slice none 0 0, .int .i64 0, .int .i64 fn, .int .i64 m.a, .int .i64 m.b, .int .i64 m.c, .int .i64 m.d, .int .i64 m.x, .int .i64 m.y, .slice ba N bc] := Row.up (show Row _ w.heap.size #[.int .i64 4, .slice none 0 0, .int .i64 1, .int .i64 0, .int .i64 0, .int .i64 0, .int .i64 0, .slice ca 0 cc, .int .i64 0, .int .i64 0, .int .i64 0, .int .i64 0, .slice none 0 0, .int .i64 0, .int .i64 fn, .int .i64 m.a, .int .i64 m.b, .int .i64 m.c, .int .i64 m.d, .int .i64 m.x, .int .i64 m.y, .slice ba N bc] by exact ra) hu2; have lA_w2 := RA_w2.lt; have cA_w2_8 : w2.cell? ⟨w.heap.size, 8, none⟩ = some (.int .i64 0) := RA_w2.cell 8 rfl; have cA_w2_9 : w2.cell? ⟨w.heap.size, 9, none⟩ = some (.int .i64 0) := RA_w2.cell 9 rfl; have cA_w2_10 : w2.cell? ⟨w.heap.size, 10, none⟩ = some (.int .i64 0) := RA_w2.cell 10 rfl; have cA_w2_11 : w2.cell? ⟨w.heap.size, 11, none⟩ = some (.int .i64 0) := RA_w2.cell 11 rfl; have cA_w2_12 : w2.cell? ⟨w.heap.size, 12, none⟩ = some (.slice none 0 0) := RA_w2.cell 12 rfl; have cA_w2_13 : w2.cell? ⟨w.heap.size, 13, none⟩ = some (.int .i64 0) := RA_w2.cell 13 rfl; have RB_w2 : Row w2 (w.heap.size + 1) #[.int .i64 4, .slice none 0 0, .int .i64 1, .int .i64 0, .int .i64 0, .int .i64 0, .int .i64 0, .slice ca2 0 cc2, .int .i64 0, .int .i64 0, .int .i64 0, .int .i64 0, .slice none 0 0, .int .i64 0, .int .i64 fn, .int .i64 m.a, .int .i64 m.b, .int .i64 m.c, .int .i64 m.d, .int .i64 m.x, .int .i64 m.y, .slice ba2 N bc2] := Row.up (show Row _ (w.heap.size + 1) #[.int .i64 4, .slice none 0 0, .int .i64 1, .int .i64 0, .int .i64 0, .int .i64 0, .int .i64 0, .slice ca2 0 cc2, .int .i64 0, .int .i64 0, .int .i64 0, .int .i64 0, .slice none 0 0, .int .i64 0, .int .i64 fn, .int .i64 m.a, .int .i64 m.b, .int .i64 m.c, .int .i64 m.d, .int .i64 m.x, .int .i64 m.y, .slice ba2 N bc2] by exact ra) hu2; have lB_w2 := RB_w2.lt; have cB_w2_8 : w2.cell? ⟨w.heap.size + 1, 8, none⟩ = some (.int .i64 0) := RB_w2.cell 8 rfl; have cB_w2_9 : w2.cell? ⟨w.heap.size + 1, 9, none⟩ = some (.int .i64 0) := RB_w2.cell 9 rfl; have cB_w2_10 : w2.cell? ⟨w.heap.size + 1, 10, none⟩ = some (.int .i64 0) := RB_w2.cell 10 rfl; have cB_w2_11 : w2.cell? ⟨w.heap.size + 1, 11, none⟩ = some (.int .i64 0) := RB_w2.cell 11 rfl; have cB_w2_12 : w2.cell? ⟨w.heap.size + 1, 12, none⟩ = some (.slice none 0 0) := RB_w2.cell 12 rfl; have cB_w2_13 : w2.cell? ⟨w.heap.size + 1, 13, none⟩ = some (.int .i64 0) := RB_w2.cell 13 rfl; have z2 := hu2.size))
    | (go_at_call 66; ((with_reducible refine (samePen_zero _).mono ?_); rintro E w3 ⟨rfl, hu3⟩; have RA_w3 : Row w3 w.heap.size #[.int .i64 4, .slice none 0 0, .int .i64 1, .int .i64 0, .int .i64 0, .int .i64 0, .int .i64 0, .slice ca 0 cc, .int .i64 0, .int .i64 0, .int .i64 0, .int .i64 0, .slice none 0 0, .int .i64 0, .int .i64 fn, .int .i64 m.a, .int .i64 m.b, .int .i64 m.c, .int .i64 m.d, .int .i64 m.x, .int .i64 m.y, .slice ba N bc] := Row.up (show Row _ w.heap.size #[.int .i64 4, .slice none 0 0, .int .i64 1, .int .i64 0, .int .i64 0, .int .i64 0, .int .i64 0, .slice ca 0 cc, .int .i64 0, .int .i64 0, .int .i64 0, .int .i64 0, .slice none 0 0, .int .i64 0, .int .i64 fn, .int .i64 m.a, .int .i64 m.b, .int .i64 m.c, .int .i64 m.d, .int .i64 m.x, .int .i64 m.y, .slice ba N bc] by exact ra) hu3; have lA_w3 := RA_w3.lt; have cA_w3_14 : w3.cell? ⟨w.heap.size, 14, none⟩ = some (.int .i64 fn) := RA_w3.cell 14 rfl; have cA_w3_15 : w3.cell? ⟨w.heap.size, 15, none⟩ = some (.int .i64 m.a) := RA_w3.cell 15 rfl; have cA_w3_16 : w3.cell? ⟨w.heap.size, 16, none⟩ = some (.int .i64 m.b) := RA_w3.cell 16 rfl; have cA_w3_17 : w3.cell? ⟨w.heap.size, 17, none⟩ = some (.int .i64 m.c) := RA_w3.cell 17 rfl; have cA_w3_18 : w3.cell? ⟨w.heap.size, 18, none⟩ = some (.int .i64 m.d) := RA_w3.cell 18 rfl; have cA_w3_19 : w3.cell? ⟨w.heap.size, 19, none⟩ = some (.int .i64 m.x) := RA_w3.cell 19 rfl; have cA_w3_20 : w3.cell? ⟨w.heap.size, 20, none⟩ = some (.int .i64 m.y) := RA_w3.cell 20 rfl; have cA_w3_21 : w3.cell? ⟨w.heap.size, 21, none⟩ = some (.slice ba N bc) := RA_w3.cell 21 rfl; have RB_w3 : Row w3 (w.heap.size + 1) #[.int .i64 4, .slice none 0 0, .int .i64 1, .int .i64 0, .int .i64 0, .int .i64 0, .int .i64 0, .slice ca2 0 cc2, .int .i64 0, .int .i64 0, .int .i64 0, .int .i64 0, .slice none 0 0, .int .i64 0, .int .i64 fn, .int .i64 m.a, .int .i64 m.b, .int .i64 m.c, .int .i64 m.d, .int .i64 m.x, .int .i64 m.y, .slice ba2 N bc2] := Row.up (show Row _ (w.heap.size + 1) #[.int .i64 4, .slice none 0 0, .int .i64 1, .int .i64 0, .int .i64 0, .int .i64 0, .int .i64 0, .slice ca2 0 cc2, .int .i64 0, .int .i64 0, .int .i64 0, .int .i64 0, .slice none 0 0, .int .i64 0, .int .i64 fn, .int .i64 m.a, .int .i64 m.b, .int .i64 m.c, .int .i64 m.d, .int .i64 m.x, .int .i64 m.y, .slice ba2 N bc2] by exact ra) hu3; have lB_w3 := RB_w3.lt; have cB_w3_14 : w3.cell? ⟨w.heap.size + 1, 14, none⟩ = some (.int .i64 fn) := RB_w3.cell 14 rfl; have cB_w3_15 : w3.cell? ⟨w.heap.size + 1, 15, none⟩ = some (.int .i64 m.a) := RB_w3.cell 15 rfl; have cB_w3_16 : w3.cell? ⟨w.heap.size + 1, 16, none⟩ = some (.int .i64 m.b) := RB_w3.cell 16 rfl; have cB_w3_17 : w3.cell? ⟨w.heap.size + 1, 17, none⟩ = some (.int .i64 m.c) := RB_w3.cell 17 rfl; have cB_w3_18 : w3.cell? ⟨w.heap.size + 1, 18, none⟩ = some (.int .i64 m.d) := RB_w3.cell 18 rfl; have cB_w3_19 : w3.cell? ⟨w.heap.size + 1, 19, none⟩ = some (.int .i64 m.x) := RB_w3.cell 19 rfl; have cB_w3_20 : w3.cell? ⟨w.heap.size + 1, 20, none⟩ = some (.int .i64 m.y) := RB_w3.cell 20 rfl; have cB_w3_21 : w3.cell? ⟨w.heap.size + 1, 21, none⟩ = some (.slice ba2 N bc2) := RB_w3.cell 21 rfl; have z3 := hu3.size))
    | (go_at_call 67; ((with_reducible refine (sameB_calls _ _ N _ _ zs _ HN.out hl (H1.out.up (by exact ua)) (H2.out.up (by exact ua))).mono ?_); rintro E w4 ⟨rfl, hu4⟩)))
  go_ret
  exact ⟨rfl, by exact ua⟩

end Go.Proofs.YtjdbefpfjhdmoaaDoor.Sh
end

section
namespace Go.Proofs.YtjdbefpfjhdmoaaDoor.Sh
open Go.Proofs.YtjdbefpfjhdmoaaDoor.ZGE
open Go.ChangeShapes Go.WideShapes Go.ChangeAt Go.RowKit
open Go.Proofs.YtjdbefpfjhdmoaaDoor.Gs
open Go.Proofs.YtjdbefpfjhdmoaaDoor.MatM (M6)
open Go.Proofs.YtjdbefpfjhdmoaaDoor.PathM
set_option linter.unusedVariables false
set_option linter.unusedSimpArgs false

/-- items that a list owns whose blocks are no older than a bound -/
structure Mid (w : World) (base : Nat) (v : Value) (l : List Cl) : Prop where
  its : w.ownsRow base 86 22 v l.length (clCells l)
  bytes : Bys w l
  lb : ∀ k ∈ l, 0 < k.it.bs.length
  apart : ∀ b ∈ bys l, b ∉ own v
theorem cl_range {w : World} {g cap k : Nat} {l : List Cl} {c : Cl} (h : Its w (.slice (some ⟨g, 0, none⟩) l.length cap) l) (hk : l[k]? = some c) : w.rangeAt g (k * 22) c.cells := fun j u hj => by
  have hk1 : k < l.length := (List.getElem?_eq_some_iff.1 hk).1
  have hj1 : j < 22 := by have := (List.getElem?_eq_some_iff.1 hj).1; rw [cells_length] at this; exact this
  rw [h.cellAt (k * 22 + j) (by omega), clCells_at l k c j hk hj1, hj]
theorem ownsRow_up {w w1 : World} {base : Nat} {e : TypeId} {k n : Nat} {v : Value} {xs : List Value} (h : w.ownsRow base e k v n xs) (hc : Up w w1) : w1.ownsRow base e k v n xs := by
  refine ⟨h.1, ?_⟩
  rcases h.2 with h1 | ⟨g, cap, cur, hv, hb, hg, hr⟩
  · exact Or.inl h1
  · refine Or.inr ⟨g, cap, cur, hv, hb, ?_, hr⟩
    rw [hc.block g (Array.getElem?_eq_some_iff.1 hg).1]
    exact hg
theorem ownsRow_lt {w : World} {base : Nat} {e : TypeId} {k n : Nat} {v : Value} {xs : List Value} (h : w.ownsRow base e k v n xs) : ∀ b ∈ own v, base ≤ b ∧ b < w.heap.size := fun b hb => by
  rcases h.2 with ⟨h1, h2⟩ | ⟨g, cap, cur, hv, hb2, hg, hr⟩
  · subst h1; simp [own, Value.ownBlock] at hb
  · subst hv
    simp [own, Value.ownBlock] at hb
    exact ⟨by omega, by rw [hb]; exact (Array.getElem?_eq_some_iff.1 hg).1⟩
/-- one more -/
theorem Mid.more {w w1 w2 : World} {base g2 cap2 H : Nat} {v : Value} {l : List Cl} (h : Mid w base v l) (hu : Up w w1) {k : Cl} (hk : Ints .u8 w1 k.bv k.it.bs) (h0 : 0 < k.it.bs.length) (hf : ∀ b ∈ own k.bv, w.heap.size ≤ b)
    (hc : Chg (own v) w1 w2) (hat : v.ownBlock = some g2 ∨ g2 = H) (hH : w1.heap.size ≤ H)
    (ho : w2.ownsRow base 86 22 (.slice (some ⟨g2, 0, none⟩) (l.length + 1) cap2) (l.length + 1) (clCells l ++ k.cells)) : Mid w2 base (.slice (some ⟨g2, 0, none⟩) (l.length + 1) cap2) (l ++ [k]) := by
  have hlt := ownsRow_lt h.its
  have hb0 := bys_lt h.bytes h.lb
  have hb1 : ∀ b ∈ bys [k], b < w1.heap.size := bys_lt (l := [k]) (fun k2 h2 => by rw [List.mem_singleton.1 h2]; exact hk) (fun k2 h2 => by rw [List.mem_singleton.1 h2]; exact h0)
  have hs := hu.size
  refine ⟨?_, ?_, ?_, ?_⟩
  · have e1 : (l ++ [k]).length = l.length + 1 := by simp
    have e2 : clCells (l ++ [k]) = clCells l ++ k.cells := by rw [clCells_append]; simp [clCells]
    rw [e1, e2]
    exact ho
  · intro k2 hk2
    rcases List.mem_append.1 hk2 with h1 | h1
    · exact ints_chgS ((h.bytes k2 h1).up hu) hc (fun g hg => h.apart g (List.mem_flatMap.2 ⟨k2, h1, hg⟩))
    · rw [List.mem_singleton.1 h1]
      exact ints_chgS hk hc (fun g hg h2 => by have := hf g hg; have := hlt g h2; omega)
  · intro k2 hk2
    rcases List.mem_append.1 hk2 with h1 | h1
    · exact h.lb k2 h1
    · rw [List.mem_singleton.1 h1]; exact h0
  · intro b hb h4
    have h4 := own_of h4
    simp only [Value.ownBlock, Option.some.injEq] at h4
    subst h4
    rw [bys_append] at hb
    rcases List.mem_append.1 hb with h1 | h1
    · rcases hat with h5 | h5
      · exact h.apart _ h1 (own_mem h5)
      · have := hb0 _ h1; omega
    · have h6 := hb1 _ h1
      have h7 := hf _ (by simpa [bys] using h1)
      rcases hat with h5 | h5
      · have := hlt _ (own_mem h5); omega
      · omega
theorem map_take_succ {l : List Cl} {k : Nat} {c : Cl} (h : l[k]? = some c) : (l.take (k + 1)).map (·.it) = (l.take k).map (·.it) ++ [c.it] := by
  rw [List.take_succ_eq_append_getElem (List.getElem?_eq_some_iff.1 h).1, List.map_append, (List.getElem?_eq_some_iff.1 h).2]
  rfl

set_option maxRecDepth 8000 in
set_option maxHeartbeats 4000000 in
theorem owns_calls (v : Value) (l : List Cl) (w : World) (h : Its w v l) (hb : Bys w l) (hlb : ∀ k ∈ l, 0 < k.it.bs.length) (hl : l.length ≤ 100000) (hbs : ∀ k ∈ l, k.it.bs.length ≤ 1000000) :
    Calls Tryd.prog 40 #[v] w fun E w' => ∃ v' l', E = .returned v' ∧ Mid w' w.heap.size v' l' ∧ l'.map (·.it) = l.map (·.it) ∧ Up w w' := by
  obtain ⟨i0, hi, hz0, hz1, hz2⟩ := info_parts infoIt3
  have HI := Lib.hid h
  have HB := Lib.hid hb
  have HLB := Lib.hid hlb
  have HBS := Lib.hid hbs
  have HG := Lib.hid (show ∀ a c, v = .slice a l.length c → 0 < l.length → ∃ g, a = some ⟨g, 0, none⟩ ∧ g < w.heap.size from fun a c e h0 => by
    rcases owned_form h with ⟨e2, h1⟩ | ⟨g, cap, e2, _, _, h1⟩
    · omega
    · rw [e] at e2; injection e2 with e3; exact ⟨g, e3, h1⟩)
  obtain ⟨ao, cap, rfl⟩ := owned_val h
  clear h hb hlb hbs
  go_enter Tryd.func40, Tryd.ntmps40
  go_wp2_with (refine wpList_make_own _ rfl _ _ 43 rfl w.heap.size 86 i0 (.agg #[.int .i64 0, .slice none 0 0, .int .i64 0, .int .i64 0, .int .i64 0, .int .i64 0, .int .i64 0, .slice none 0 0, .int .i64 0, .int .i64 0, .int .i64 0, .int .i64 0, .slice none 0 0, .int .i64 0, .int .i64 0, .int .i64 0, .int .i64 0, .int .i64 0, .int .i64 0, .int .i64 0, .int .i64 0, .slice none 0 0]) 22 Tryd.underlying43 hi hz0 hz1 .i64 .i64 _ l.length rfl rfl rfl (by rw [hz2]; omega) (by unfold maxLen; omega) (by simp) ?_; intro w1 hown1 hgr1; have HM1 := Lib.hid (show Mid w1 w.heap.size (.slice (some ⟨w.heap.size, 0, none⟩) 0 l.length) [] from ⟨hown1, (fun k hk => by cases hk), (fun k hk => by cases hk), (fun b hb => by cases hb)⟩); have HU1 := Lib.hid (show Up w w1 from grown_up (Up.refl _) hgr1 (fun k hk => by cases hk)); clear hown1 hgr1)
  go_loopw [3, 11] (fun s3 s11 wr => ∃ l1 : List Cl, ∃ a3 c3, l1.length ≤ l.length ∧ s11 = .int .i64 l1.length ∧ s3 = .slice a3 l1.length c3 ∧ Hid (Mid wr w.heap.size (.slice a3 l1.length c3) l1) ∧ Hid (l1.map (·.it) = (l.take l1.length).map (·.it)) ∧ Up w wr) (fun _ s11 _ => l.length - (intOf s11).toNat)
  case atStart => exact ⟨[], _, _, Nat.zero_le _, rfl, rfl, HM1, Lib.hid rfl, HU1.out⟩
  case round =>
    obtain ⟨l1, a3, c3, hk, rfl, rfl, HMD, HMP, hup⟩ := hrel
    by_cases hlt : l1.length < l.length
    · obtain ⟨k, hkk⟩ : ∃ k, l1.length = k := ⟨_, rfl⟩
      obtain ⟨⟨⟨fn, m, bs⟩, ca, cc, ba, bc⟩, hc⟩ : ∃ c, l[l1.length]? = some c := ⟨_, List.getElem?_eq_getElem hlt⟩
      have hcm := List.mem_of_getElem? hc
      have HV := Lib.hid (show Ints .u8 w (.slice ba bs.length bc) bs from HB.out _ hcm)
      have HBP := Lib.hid (show 0 < bs.length from HLB.out _ hcm)
      have HL1 := Lib.hid (show bs.length ≤ 1000000 from HBS.out _ hcm)
      have HC := Lib.hid hc
      have HOL := Lib.hid (fun b hb => (ownsRow_lt HMD.out.its b hb).1)
      obtain ⟨g, rfl, hg⟩ := HG.out ao cap rfl (by omega)
      have HRG := Lib.hid (show w.rangeAt g (l1.length * 22) #[.int .i64 4, .slice none 0 0, .int .i64 1, .int .i64 0, .int .i64 0, .int .i64 0, .int .i64 0, .slice ca 0 cc, .int .i64 0, .int .i64 0, .int .i64 0, .int .i64 0, .slice none 0 0, .int .i64 0, .int .i64 fn, .int .i64 m.a, .int .i64 m.b, .int .i64 m.c, .int .i64 m.d, .int .i64 m.x, .int .i64 m.y, .slice ba bs.length bc].toList from cl_range HI.out hc)
      have hz := hup.size
      clear hcm hc hkk k
      go_wp2_with (first
        | ((refine wpList_load_mid rfl 86 (.tmp 13) rfl g (l1.length * 22) (by first | rfl | simp) #[.int .i64 4, .slice none 0 0, .int .i64 1, .int .i64 0, .int .i64 0, .int .i64 0, .int .i64 0, .slice ca 0 cc, .int .i64 0, .int .i64 0, .int .i64 0, .int .i64 0, .slice none 0 0, .int .i64 0, .int .i64 fn, .int .i64 m.a, .int .i64 m.b, .int .i64 m.c, .int .i64 m.d, .int .i64 m.x, .int .i64 m.y, .slice ba bs.length bc].toList _ (fun j u hj => ((show Up w _ by exact ua).cells.1 g (l1.length * 22 + j) hg).trans (HRG.out j u hj)) Tryd.underlying86 rfl infoIt ?_); (try simp only [Array.toArray_toList]))
        | ((refine wpList_store_Row rfl 86 (.tmp 5) _ rfl wr.heap.size #[.int .i64 4, .slice none 0 0, .int .i64 1, .int .i64 0, .int .i64 0, .int .i64 0, .int .i64 0, .slice ca 0 cc, .int .i64 0, .int .i64 0, .int .i64 0, .int .i64 0, .slice none 0 0, .int .i64 0, .int .i64 fn, .int .i64 m.a, .int .i64 m.b, .int .i64 m.c, .int .i64 m.d, .int .i64 m.x, .int .i64 m.y, .slice ba bs.length bc] rfl rfl #[.int .i64 0, .slice none 0 0, .int .i64 0, .int .i64 0, .int .i64 0, .int .i64 0, .int .i64 0, .slice none 0 0, .int .i64 0, .int .i64 0, .int .i64 0, .int .i64 0, .slice none 0 0, .int .i64 0, .int .i64 0, .int .i64 0, .int .i64 0, .int .i64 0, .int .i64 0, .int .i64 0, .int .i64 0, .slice none 0 0] (by exact ra) infoIt rfl rfl (by simp [Value.oneCell']) ?_); intro w3 hr3 hc3; have z3 := hc3.size; (try simp at z3); have u3 : Up wr w3 := (show Chg [] wr w3 by (repeat' (first | (with_reducible first | exact Chg.refl _ _ | assumption | refine Chg.alloc ?_ _ | refine Chg.drew ?_ | refine Chg.drewN ?_ _ | refine Chg.setCell ?_ ?_ _ | refine Chg.upc ?_ (by assumption) | refine Chg.call ?_ (by assumption) ?_) | (refine Or.inl ?_; (simp; done)) | (simp; done) | (simp; omega) | omega))).up)
        | (refine wpList_load_Row rfl 86 (.tmp 5) rfl wr.heap.size rfl #[.int .i64 4, .slice none 0 0, .int .i64 1, .int .i64 0, .int .i64 0, .int .i64 0, .int .i64 0, .slice ca 0 cc, .int .i64 0, .int .i64 0, .int .i64 0, .int .i64 0, .slice none 0 0, .int .i64 0, .int .i64 fn, .int .i64 m.a, .int .i64 m.b, .int .i64 m.c, .int .i64 m.d, .int .i64 m.x, .int .i64 m.y, .slice ba bs.length bc] _ hr3 Tryd.underlying86 rfl infoIt rfl ?_)
        | (go_at_call 68; ((with_reducible refine (own_callsL fn m ca cc ba bc bs _ (HV.out.up (Up.call hup u3)) HL1.out).mono ?_); rintro E w4 ⟨ca1, cc1, ba1, bc1, rfl, hb4, hf4, hu4⟩; have z4 := hu4.size; have u4 : Up wr w4 := Up.call u3 hu4; have HB4 := Lib.hid hb4; have HF4 := Lib.hid hf4; clear hb4 hf4))
        | (at_builtin; go_loud (refine wpList_append_lies _ rfl (.tmp 15) (.tmp 18) 43 rfl w.heap.size 86 i0 (.agg #[.int .i64 0, .slice none 0 0, .int .i64 0, .int .i64 0, .int .i64 0, .int .i64 0, .int .i64 0, .slice none 0 0, .int .i64 0, .int .i64 0, .int .i64 0, .int .i64 0, .slice none 0 0, .int .i64 0, .int .i64 0, .int .i64 0, .int .i64 0, .int .i64 0, .int .i64 0, .int .i64 0, .int .i64 0, .slice none 0 0]) 22 240 Tryd.underlying43 hi hz0 hz1 hz2 rfl (by decide) (.slice a3 l1.length c3) l1.length (clCells l1) rfl (ownsRow_up HMD.out.its (Up.alloc u4 _)) ⟨w4.heap.size, 0, none⟩ 1 1 #[.int .i64 4, .slice none 0 0, .int .i64 1, .int .i64 0, .int .i64 0, .int .i64 0, .int .i64 0, .slice ca1 0 cc1, .int .i64 0, .int .i64 0, .int .i64 0, .int .i64 0, .slice none 0 0, .int .i64 0, .int .i64 fn, .int .i64 m.a, .int .i64 m.b, .int .i64 m.c, .int .i64 m.d, .int .i64 m.x, .int .i64 m.y, .slice ba1 bs.length bc1].toList rfl rfl (news_at (by exact ra) rfl) (by simp [Value.oneCell']) (by decide) (by unfold maxLen; omega) (by omega) (by have := hup.size; simp; omega) _ rfl ?_; intro g2 cap2 w5 hown5 hgr5 hat5 hg5; have z5 := hgr5.size; (try simp at z5); have HM5 := Lib.hid (HMD.out.more (k := ⟨⟨fn, m, bs⟩, ca1, cc1, ba1, bc1⟩) (w1 := w4) (H := w4.heap.size + 1) u4 HB4.out HBP.out (fun b hb => Nat.le_trans u3.size (HF4.out b hb)) (Chg.grown ((Chg.refl _ _).alloc _) hgr5 (fun k hk => Or.inl (own_mem hk))) (hat5.imp id (fun h => by simpa using h)) (Nat.le_succ _) hown5); have u5 : Up w w5 := (((Chg.of_up (S := []) (Up.call hup u4)).alloc _).grown hgr5 (fun k hk => Or.inr (HOL.out k (own_mem hk)))).up; clear hown5 hgr5 hat5)))
      go_roundw
      case rel => exact ⟨l1 ++ [⟨⟨fn, m, bs⟩, ca1, cc1, ba1, bc1⟩], some ⟨g2, 0, none⟩, cap2, by simp; omega, by simp, by simp, Lib.hid (by have h1 := HM5.out; simpa using h1), Lib.hid (by rw [List.length_append, List.length_singleton, map_take_succ HC.out, List.map_append, HMP.out]; rfl), u5⟩
      case measure => simp [intOf]; omega
    · go_wp2
      go_ret
      exact ⟨.slice a3 l1.length c3, rfl, l1, HMD.out, by rw [HMP.out, List.take_of_length_le (by omega)], hup⟩
theorem items_calls (c : Nat) (v : Value) (l : List Cl) (w : World) (hq : w.cell? ⟨c, 2, none⟩ = some v) (h : Its w v l) (hb : Bys w l) (hlb : ∀ k ∈ l, 0 < k.it.bs.length) (hl : l.length ≤ 100000) (hbs : ∀ k ∈ l, k.it.bs.length ≤ 1000000) :
    Calls Tryd.prog 14 #[.pointer (some ⟨c, 0, none⟩)] w fun E w' => ∃ v' l', E = .returned v' ∧ Mid w' w.heap.size v' l' ∧ l'.map (·.it) = l.map (·.it) ∧ Up w w' := by
  have HI := Lib.hid h
  have HB := Lib.hid hb
  have HLB := Lib.hid hlb
  have HBS := Lib.hid hbs
  clear h hb hlb hbs
  go_enter Tryd.func14, Tryd.ntmps14
  go_wp2_with (go_at_call 40; ((with_reducible refine (owns_calls v l _ HI.out HB.out HLB.out hl HBS.out).mono ?_); rintro E w1 ⟨v1, l1, rfl, hm1, hi1, hu1⟩; have HM1 := Lib.hid hm1; have HI1 := Lib.hid hi1; clear hm1 hi1))
  go_ret
  exact ⟨v1, l1, rfl, HM1.out, HI1.out, by exact ua⟩

end Go.Proofs.YtjdbefpfjhdmoaaDoor.Sh
end

section
namespace Go.Proofs.YtjdbefpfjhdmoaaDoor.Sh
open List renaming getElem_toArray → lga, getElem_cons_zero → lgz, getElem_cons_succ → lgs, setIfInBounds_toArray → lsa, set_cons_zero → lsz, set_cons_succ → lss
open Go.ChangeShapes Go.WideShapes Go.ChangeAt Go.RowKit
open Go.Proofs.YtjdbefpfjhdmoaaDoor.Gs
open Go.Proofs.YtjdbefpfjhdmoaaDoor.MatM (M6)
open Go.Proofs.YtjdbefpfjhdmoaaDoor.PathM
set_option linter.unusedVariables false
set_option linter.unusedSimpArgs false

theorem sameItem_callsL (fn : Int) (m : M6) (ca ca2 ba ba2 : Option Addr) (cc cc2 bc bc2 : Nat) (bs : List Int) (w : World) (hl : bs.length ≤ 1000000000) (h1 : Ints .u8 w (.slice ba bs.length bc) bs) (h2 : Ints .u8 w (.slice ba2 bs.length bc2) bs) :
    Calls Tryd.prog 39 #[.agg #[.int .i64 4, .slice none 0 0, .int .i64 1, .int .i64 0, .int .i64 0, .int .i64 0, .int .i64 0, .slice ca 0 cc, .int .i64 0, .int .i64 0, .int .i64 0, .int .i64 0, .slice none 0 0, .int .i64 0, .int .i64 fn, .int .i64 m.a, .int .i64 m.b, .int .i64 m.c, .int .i64 m.d, .int .i64 m.x, .int .i64 m.y, .slice ba bs.length bc], .agg #[.int .i64 4, .slice none 0 0, .int .i64 1, .int .i64 0, .int .i64 0, .int .i64 0, .int .i64 0, .slice ca2 0 cc2, .int .i64 0, .int .i64 0, .int .i64 0, .int .i64 0, .slice none 0 0, .int .i64 0, .int .i64 fn, .int .i64 m.a, .int .i64 m.b, .int .i64 m.c, .int .i64 m.d, .int .i64 m.x, .int .i64 m.y, .slice ba2 bs.length bc2]] w fun E w' => E = .returned (.bool true) ∧ Up w w' :=
  sameItem_calls fn m ca ca2 ba ba2 cc cc2 bc bc2 bs.length bs w rfl hl h1 h2
theorem its_some {w : World} {a : Option Addr} {N c : Nat} {l : List Cl} (h : Its w (.slice a N c) l) (h0 : 0 < N) : ∃ g, a = some ⟨g, 0, none⟩ ∧ g < w.heap.size ∧ l.length = N := by
  rcases owned_form h with ⟨e2, h1⟩ | ⟨g, cap, e2, _, _, h1⟩
  · injection e2 with _ e3 _; omega
  · injection e2 with e3 e4 _; exact ⟨g, e3, h1, e4.symm⟩

set_option maxRecDepth 8000 in
set_option maxHeartbeats 4000000 in
theorem sameItems_calls (a1 a2 : Option Addr) (N c1 c2 : Nat) (l1 l2 : List Cl) (w : World) (hN : l1.length = N) (h1 : Its w (.slice a1 N c1) l1) (h2 : Its w (.slice a2 N c2) l2) (hb1 : Bys w l1) (hb2 : Bys w l2) (he : l1.map (·.it) = l2.map (·.it)) (hl : N ≤ 100000) (hbs : ∀ k ∈ l1, k.it.bs.length ≤ 1000000) :
    Calls Tryd.prog 13 #[.slice a1 N c1, .slice a2 N c2] w fun E w' => E = .returned (.bool true) ∧ Up w w' := by
  have hN2 : l2.length = N := by
    have := congrArg List.length he
    simp only [List.length_map] at this
    omega
  have H1 := Lib.hid h1
  have H2 := Lib.hid h2
  have HB1 := Lib.hid hb1
  have HB2 := Lib.hid hb2
  have HE := Lib.hid he
  have HBS := Lib.hid hbs
  have HN := Lib.hid (And.intro hN hN2)
  clear h1 h2 hb1 hb2 he hbs hN hN2
  go_enter Tryd.func13, Tryd.ntmps13
  go_wp2
  go_loopw [5] (fun s5 wr => ∃ k : Nat, k ≤ N ∧ s5 = .int .i64 k ∧ Up w wr) (fun s5 _ => N - (intOf s5).toNat)
  case atStart => exact ⟨0, Nat.zero_le _, rfl, Up.refl _⟩
  case round =>
    obtain ⟨k, hk, rfl, hup⟩ := hrel
    by_cases hlt : k < N
    · obtain ⟨⟨⟨fn, m, bs⟩, ca, cc, ba, bc⟩, hc⟩ : ∃ c, l1[k]? = some c := ⟨_, List.getElem?_eq_getElem (by have := HN.out.1; omega)⟩
      obtain ⟨⟨it2, ca2, cc2, ba2, bc2⟩, hc2⟩ : ∃ c, l2[k]? = some c := ⟨_, List.getElem?_eq_getElem (by have := HN.out.2; omega)⟩
      obtain rfl : (⟨fn, m, bs⟩ : It) = it2 := by
        have := congrArg (fun l => l[k]?) HE.out
        simp only [List.getElem?_map, hc, hc2, Option.map_some, Option.some.injEq] at this
        exact this
      have HV1 := Lib.hid (show Ints .u8 w (.slice ba bs.length bc) bs from HB1.out _ (List.mem_of_getElem? hc))
      have HV2 := Lib.hid (show Ints .u8 w (.slice ba2 bs.length bc2) bs from HB2.out _ (List.mem_of_getElem? hc2))
      have HL1 := Lib.hid (show bs.length ≤ 1000000000 from by have h : bs.length ≤ 1000000 := HBS.out _ (List.mem_of_getElem? hc); omega)
      obtain ⟨g1, rfl, hg1, e1⟩ := its_some H1.out (by omega)
      obtain ⟨g2, rfl, hg2, e2⟩ := its_some H2.out (by omega)
      have HRA := Lib.hid (show w.rangeAt g1 (k * 22) #[.int .i64 4, .slice none 0 0, .int .i64 1, .int .i64 0, .int .i64 0, .int .i64 0, .int .i64 0, .slice ca 0 cc, .int .i64 0, .int .i64 0, .int .i64 0, .int .i64 0, .slice none 0 0, .int .i64 0, .int .i64 fn, .int .i64 m.a, .int .i64 m.b, .int .i64 m.c, .int .i64 m.d, .int .i64 m.x, .int .i64 m.y, .slice ba bs.length bc].toList from cl_range (cap := c1) (by have h := H1.out; rw [← e1] at h; exact h) hc)
      have HRB := Lib.hid (show w.rangeAt g2 (k * 22) #[.int .i64 4, .slice none 0 0, .int .i64 1, .int .i64 0, .int .i64 0, .int .i64 0, .int .i64 0, .slice ca2 0 cc2, .int .i64 0, .int .i64 0, .int .i64 0, .int .i64 0, .slice none 0 0, .int .i64 0, .int .i64 fn, .int .i64 m.a, .int .i64 m.b, .int .i64 m.c, .int .i64 m.d, .int .i64 m.x, .int .i64 m.y, .slice ba2 bs.length bc2].toList from cl_range (cap := c2) (by have h := H2.out; rw [← e2] at h; exact h) hc2)
      have hz := hup.size
      clear hc hc2 e1 e2
      go_wp2
      refine wp_region_held_drew (S := fun w' => w'.rangeAt g1 (k * 22) #[.int .i64 4, .slice none 0 0, .int .i64 1, .int .i64 0, .int .i64 0, .int .i64 0, .int .i64 0, .slice ca 0 cc, .int .i64 0, .int .i64 0, .int .i64 0, .int .i64 0, .slice none 0 0, .int .i64 0, .int .i64 fn, .int .i64 m.a, .int .i64 m.b, .int .i64 m.c, .int .i64 m.d, .int .i64 m.x, .int .i64 m.y, .slice ba bs.length bc].toList ∧ w'.rangeAt g2 (k * 22) #[.int .i64 4, .slice none 0 0, .int .i64 1, .int .i64 0, .int .i64 0, .int .i64 0, .int .i64 0, .slice ca2 0 cc2, .int .i64 0, .int .i64 0, .int .i64 0, .int .i64 0, .slice none 0 0, .int .i64 0, .int .i64 fn, .int .i64 m.a, .int .i64 m.b, .int .i64 m.c, .int .i64 m.d, .int .i64 m.x, .int .i64 m.y, .slice ba2 bs.length bc2].toList) (by kernel_rfl) ?_ (fun hHeld => ?_)
      · exact ⟨fun j u hj => (hup.cells.1 g1 (k * 22 + j) hg1).trans (HRA.out j u hj), fun j u hj => (hup.cells.1 g2 (k * 22 + j) hg2).trans (HRB.out j u hj)⟩
      refine wpAnyH_take (i := 0) (v := ?_) rfl (by kernel_rfl) (by kernel_rfl) (by kernel_rfl) (fun _ _ _ h => h) (Or.inl ⟨by rfl, ?_⟩) (by assumption) ?_
      rotate_left
      · intro w2 hSw
        (try dsimp only at hSw)
        (try clear hSw)
        go_simp
        (try (with_reducible rfl))
      (try simp only [Act.put, lga, lgz, lgs, lsa, lsz, lss])
      refine wpAnyH_take (i := 1) (v := ?_) rfl (by kernel_rfl) (by kernel_rfl) (by kernel_rfl) (fun _ _ _ h => h) (Or.inl ⟨by rfl, ?_⟩) (by assumption) ?_
      rotate_left
      · intro w2 hSw
        (try dsimp only at hSw)
        (try clear hSw)
        go_simp
        (try (with_reducible rfl))
      (try simp only [Act.put, lga, lgz, lgs, lsa, lsz, lss])
      refine wpAnyH_take (i := 2) (v := ?_) rfl (by kernel_rfl) (by kernel_rfl) (by kernel_rfl) (fun _ _ _ h => h) (Or.inl ⟨by rfl, ?_⟩) (by assumption) ?_
      rotate_left
      · intro w2 hSw
        (try dsimp only at hSw)
        (try clear hSw)
        go_simp
        (try (with_reducible rfl))
      (try simp only [Act.put, lga, lgz, lgs, lsa, lsz, lss])
      refine wpAnyH_take (i := 4) (v := ?_) rfl (by kernel_rfl) (by kernel_rfl) (by kernel_rfl) (fun _ _ _ h => h) (Or.inl ⟨by rfl, ?_⟩) (by assumption) ?_
      rotate_left
      · intro w2 hSw
        (try dsimp only at hSw)
        (try clear hSw)
        go_simp
        (try (with_reducible rfl))
      (try simp only [Act.put, lga, lgz, lgs, lsa, lsz, lss])
      refine wpAnyH_take (i := 5) (v := ?_) rfl (by kernel_rfl) (by kernel_rfl) (by kernel_rfl) (fun _ _ _ h => h) (Or.inl ⟨by rfl, ?_⟩) (by assumption) ?_
      rotate_left
      · intro w2 hSw
        (try dsimp only at hSw)
        (try clear hSw)
        go_simp
        (try (with_reducible rfl))
      (try simp only [Act.put, lga, lgz, lgs, lsa, lsz, lss])
      refine wpAnyH_take (i := 6) (v := ?_) rfl (by kernel_rfl) (by kernel_rfl) (by kernel_rfl) (fun _ _ _ h => h) (Or.inl ⟨by rfl, ?_⟩) (by assumption) ?_
      rotate_left
      · intro w2 hSw
        (try dsimp only at hSw)
        (try clear hSw)
        go_simp
        (try (with_reducible rfl))
      (try simp only [Act.put, lga, lgz, lgs, lsa, lsz, lss])
      refine wpAnyH_take (i := 3) rfl (by kernel_rfl) (by kernel_rfl) (by kernel_rfl) (fun _ _ _ h => h) (yieldsIf_load_mid (by rfl) 86 (.tmp 19) rfl g1 (k * 22) (by first | rfl | simp) #[.int .i64 4, .slice none 0 0, .int .i64 1, .int .i64 0, .int .i64 0, .int .i64 0, .int .i64 0, .slice ca 0 cc, .int .i64 0, .int .i64 0, .int .i64 0, .int .i64 0, .slice none 0 0, .int .i64 0, .int .i64 fn, .int .i64 m.a, .int .i64 m.b, .int .i64 m.c, .int .i64 m.d, .int .i64 m.x, .int .i64 m.y, .slice ba bs.length bc].toList _ (fun _ h => h.1) Tryd.underlying86 rfl infoIt) (by assumption) ?_
      (try simp only [Array.toArray_toList])
      (try simp only [Act.put, lga, lgz, lgs, lsa, lsz, lss])
      refine wpAnyH_take (i := 7) rfl (by kernel_rfl) (by kernel_rfl) (by kernel_rfl) (fun _ _ _ h => h) (yieldsIf_load_mid (by rfl) 86 (.tmp 23) rfl g2 (k * 22) (by first | rfl | simp) #[.int .i64 4, .slice none 0 0, .int .i64 1, .int .i64 0, .int .i64 0, .int .i64 0, .int .i64 0, .slice ca2 0 cc2, .int .i64 0, .int .i64 0, .int .i64 0, .int .i64 0, .slice none 0 0, .int .i64 0, .int .i64 fn, .int .i64 m.a, .int .i64 m.b, .int .i64 m.c, .int .i64 m.d, .int .i64 m.x, .int .i64 m.y, .slice ba2 bs.length bc2].toList _ (fun _ h => h.2) Tryd.underlying86 rfl infoIt) (by assumption) ?_
      (try simp only [Array.toArray_toList])
      (try simp only [Act.put, lga, lgz, lgs, lsa, lsz, lss])
      refine wpAnyH_ready (rs := [8]) (by decide +kernel) (by simp) ?_
      refine AllReadyH.cons rfl (fun K hK => ?_) (AllReadyH.nil)
      (try simp only [lga, lgz, lgs])
      (go_simp; go_at_call 39; (with_reducible refine (sameItem_callsL fn m ca ca2 ba ba2 cc cc2 bc bc2 bs _ HL1.out (HV1.out.up (show Up w _ by (repeat' (first | (with_reducible first | exact Up.refl _ | assumption | refine Up.alloc ?_ _ | refine Up.drew ?_ | refine Up.drewN ?_ _ | refine Up.setCell ?_ ?_ _ | refine Up.call ?_ (by assumption)) | go_size)))) (HV2.out.up (show Up w _ by (repeat' (first | (with_reducible first | exact Up.refl _ | assumption | refine Up.alloc ?_ _ | refine Up.drew ?_ | refine Up.drewN ?_ _ | refine Up.setCell ?_ ?_ _ | refine Up.call ?_ (by assumption)) | go_size))))).mono ?_); rintro E w4 ⟨rfl, hu4⟩; (try dsimp only))
      refine hK.out _ _ ?_ (fun hHeld => ?_)
      · exact ⟨fun j u hj => (hu4.cells.1 g1 (k * 22 + j) (by have := hup.size; simp; omega)).trans (hHeld.1 j u hj), fun j u hj => (hu4.cells.1 g2 (k * 22 + j) (by have := hup.size; simp; omega)).trans (hHeld.2 j u hj)⟩
      clear hK K
      (try simp only [Act.put, lga, lgz, lgs, lsa, lsz, lss])
      refine wpAnyH_take (i := 9) (v := ?_) rfl (by kernel_rfl) (by kernel_rfl) (by kernel_rfl) (fun _ _ _ h => h) (Or.inl ⟨by rfl, ?_⟩) (by assumption) ?_
      rotate_left
      · intro w2 hSw
        (try dsimp only at hSw)
        (try clear hSw)
        go_simp
        (try (with_reducible rfl))
      (try simp only [Act.put, lga, lgz, lgs, lsa, lsz, lss])
      refine wpAnyH_done (by kernel_rfl) ?_ _
      clear hHeld
      go_wp2
      go_roundw
      case rel => exact ⟨k + 1, by omega, by go_num, by (repeat' (first | (with_reducible first | exact Up.refl _ | assumption | refine Up.alloc ?_ _ | refine Up.drew ?_ | refine Up.drewN ?_ _ | refine Up.setCell ?_ ?_ _ | refine Up.call ?_ (by assumption)) | go_size))⟩
      case measure => simp [intOf]; omega
    · obtain rfl : k = N := by omega
      go_wp2
      go_ret
      exact ⟨rfl, by (repeat' (first | (with_reducible first | exact Up.refl _ | assumption | refine Up.alloc ?_ _ | refine Up.drew ?_ | refine Up.drewN ?_ _ | refine Up.setCell ?_ ?_ _ | refine Up.call ?_ (by assumption)) | go_size))⟩

theorem mid_its {w : World} {base N : Nat} {v : Value} {l l2 : List Cl} (h : Mid w base v l) (he : l.map (·.it) = l2.map (·.it)) (hN : l2.length = N) : Its w v l ∧ l.length = N ∧ ∃ a c, v = .slice a N c := by
  have e : l.length = N := by
    have := congrArg List.length he
    simp only [List.length_map] at this
    omega
  have h1 := (owned_base h.its).1
  refine ⟨h1, e, ?_⟩
  obtain ⟨a, c, rfl⟩ := owned_val h1
  exact ⟨a, c, by rw [e]⟩
theorem its_len {l l1 : List Cl} (he : l.map (·.it) = l1.map (·.it)) (h : ∀ k ∈ l1, k.it.bs.length ≤ 1000000) : ∀ k ∈ l, k.it.bs.length ≤ 1000000 := fun k hk => by
  have h1 : k.it ∈ l1.map (·.it) := he ▸ List.mem_map_of_mem hk
  obtain ⟨k2, hk2, e⟩ := List.mem_map.1 h1
  rw [← e]
  exact h k2 hk2
set_option maxRecDepth 8000 in
set_option maxHeartbeats 4000000 in
theorem agreeL_calls (g c p N : Nat) (pv v : Value) (C : M6) (F : Int) (FM : M6) (dk : Bool) (n : Int) (T : St) (va ra : Option Addr) (vc rc : Nat) (l1 l2 : List Cl) (w : World) (hg : Row w g (gsC C 65536 (.slice none 0 0) 0 F FM dk p 2 n)) (hp : Path.PathIs w p pv T) (hc : Canv w c v l1) (hs : Path.Segs w (.slice va T.l.length vc) T.l)
    (hN : l2.length = N) (hi2 : Its w (.slice ra N rc) l2) (hb2 : Bys w l2) (he : l1.map (·.it) = l2.map (·.it)) (hlb : ∀ k ∈ l1, 0 < k.it.bs.length) (hl : N ≤ 100000) (hbs : ∀ k ∈ l1, k.it.bs.length ≤ 1000000) :
    Calls Tryd.prog 10 #[.pointer (some ⟨g, 0, none⟩), .pointer (some ⟨c, 0, none⟩), .agg #[.int .i64 C.a, .int .i64 C.b, .int .i64 C.c, .int .i64 C.d, .int .i64 C.x, .int .i64 C.y, .int .i64 1, .int .i64 0, .int .i64 0, .int .i64 0, .int .i64 0, .int .i64 65536, .int .i64 0, .int .i64 0, .int .i64 655360, .slice none 0 0, .int .i64 0, .int .i64 F, .int .i64 FM.a, .int .i64 FM.b, .int .i64 FM.c, .int .i64 FM.d, .int .i64 FM.x, .int .i64 FM.y, .slice none 0 0, .bool dk, .int .i64 n, .slice va T.l.length vc], .agg #[.int .i64 6553600, .int .i64 6553600, .slice ra N rc, .int .i64 2, .slice none 0 0]] w fun E w' => E = .returned (.bool true) ∧ Up w w' := by
  have HG := Lib.hid hg
  have HP := Lib.hid hp
  have HC := Lib.hid hc
  have HCR := Lib.hid hc.row
  have HS := Lib.hid hs
  have HN := Lib.hid hN
  have HI2 := Lib.hid hi2
  have HB2 := Lib.hid hb2
  have HE := Lib.hid he
  have HLB := Lib.hid hlb
  have HBS := Lib.hid hbs
  have HLN2 := Lib.hid hl
  have HLN := Lib.hid (show l1.length ≤ 100000 from by have := congrArg List.length he; simp only [List.length_map] at this; omega)
  have lg := hg.lt
  have lc := hc.row.lt
  clear hg hp hc hs hN hi2 hb2 he hlb hl hbs
  go_enter Tryd.func10, Tryd.ntmps10
  go_wp2
  go_region_held3 (fun w' => w'.cell? ⟨w.heap.size, 27, none⟩ = some (.slice va T.l.length vc) ∧ w'.cell? ⟨w.heap.size + 1, 2, none⟩ = some (.slice ra N rc)) (first | with_reducible exact ⟨aw4, bw4⟩ | with_reducible exact ⟨aw3, bw3⟩ | with_reducible exact ⟨aw2, bw2⟩ | with_reducible exact ⟨aw1, bw1⟩ | (constructor <;> simp) | go_keep) (first
    | (go_at_call 16; ((with_reducible refine (path_calls g p _ ((show Row _ g (gsC C 65536 (.slice none 0 0) 0 F FM dk p 2 n) from (by have hg3 := HG.out; (repeat' (with_reducible first | assumption | (refine Row.at _ _ ?_; (simp; done)) | refine Row.alloc ?_ _ | refine Row.drew ?_ | refine Row.drewN ?_ _ | refine Row.other ?_ (by first | (simp; done) | (simp; omega) | omega) _ | refine Row.up ?_ (by assumption) | refine Row.chg ?_ (by assumption) (by first | (simp; done) | (simp; omega)))))).cell 26 rfl)).mono ?_); rintro E w90 ⟨rfl, rfl⟩))
    | (go_at_call 17; ((with_reducible refine (Path.segments_calls p _ T _ (HP.out.up (by (repeat' (first | (with_reducible first | exact Up.refl _ | assumption | refine Up.alloc ?_ _ | refine Up.drew ?_ | refine Up.drewN ?_ _ | refine Up.setCell ?_ ?_ _ | refine Up.call ?_ (by assumption)) | go_size))))).mono ?_); rintro E w1 ⟨v1, rfl, hs1, hu1, ho1⟩; have z1 := hu1.size; (try simp at z1); have HS1 := Lib.hid hs1; clear hs1 ho1; have Baw1 : Row w1 w.heap.size #[.int .i64 C.a, .int .i64 C.b, .int .i64 C.c, .int .i64 C.d, .int .i64 C.x, .int .i64 C.y, .int .i64 1, .int .i64 0, .int .i64 0, .int .i64 0, .int .i64 0, .int .i64 65536, .int .i64 0, .int .i64 0, .int .i64 655360, .slice none 0 0, .int .i64 0, .int .i64 F, .int .i64 FM.a, .int .i64 FM.b, .int .i64 FM.c, .int .i64 FM.d, .int .i64 FM.x, .int .i64 FM.y, .slice none 0 0, .bool dk, .int .i64 n, .slice va T.l.length vc] := Row.up (show Row _ w.heap.size #[.int .i64 C.a, .int .i64 C.b, .int .i64 C.c, .int .i64 C.d, .int .i64 C.x, .int .i64 C.y, .int .i64 1, .int .i64 0, .int .i64 0, .int .i64 0, .int .i64 0, .int .i64 65536, .int .i64 0, .int .i64 0, .int .i64 655360, .slice none 0 0, .int .i64 0, .int .i64 F, .int .i64 FM.a, .int .i64 FM.b, .int .i64 FM.c, .int .i64 FM.d, .int .i64 FM.x, .int .i64 FM.y, .slice none 0 0, .bool dk, .int .i64 n, .slice va T.l.length vc] by (repeat' (with_reducible first | assumption | (refine Row.at _ _ ?_; (simp; done)) | refine Row.alloc ?_ _ | refine Row.drew ?_ | refine Row.drewN ?_ _ | refine Row.other ?_ (by first | (simp; done) | (simp; omega) | omega) _ | refine Row.up ?_ (by assumption) | refine Row.chg ?_ (by assumption) (by first | (simp; done) | (simp; omega))))) hu1; have Bbw1 : Row w1 (w.heap.size + 1) #[.int .i64 6553600, .int .i64 6553600, .slice ra N rc, .int .i64 2, .slice none 0 0] := Row.up (show Row _ (w.heap.size + 1) #[.int .i64 6553600, .int .i64 6553600, .slice ra N rc, .int .i64 2, .slice none 0 0] by (repeat' (with_reducible first | assumption | (refine Row.at _ _ ?_; (simp; done)) | refine Row.alloc ?_ _ | refine Row.drew ?_ | refine Row.drewN ?_ _ | refine Row.other ?_ (by first | (simp; done) | (simp; omega) | omega) _ | refine Row.up ?_ (by assumption) | refine Row.chg ?_ (by assumption) (by first | (simp; done) | (simp; omega))))) hu1; have aw1 : w1.cell? ⟨w.heap.size, 27, none⟩ = some (.slice va T.l.length vc) := Baw1.cell 27 rfl; have bw1 : w1.cell? ⟨w.heap.size + 1, 2, none⟩ = some (.slice ra N rc) := Bbw1.cell 2 rfl; have law1 := Baw1.lt; have lbw1 := Bbw1.lt))
    | (go_at_call 15; ((with_reducible refine (Path.same_calls v1 _ T.l T.l _ HS1.out.v ((HS.out.chg (S := []) (Chg.of_up (by (repeat' (first | (with_reducible first | exact Up.refl _ | assumption | refine Up.alloc ?_ _ | refine Up.drew ?_ | refine Up.drewN ?_ _ | refine Up.setCell ?_ ?_ _ | refine Up.call ?_ (by assumption)) | go_size)))) (by simp)).v)).mono ?_); rw [decide_eq_true (rfl : T.l = T.l)]; rintro E w2 ⟨rfl, hu2⟩; have z2 := hu2.size; have Baw2 : Row w2 w.heap.size #[.int .i64 C.a, .int .i64 C.b, .int .i64 C.c, .int .i64 C.d, .int .i64 C.x, .int .i64 C.y, .int .i64 1, .int .i64 0, .int .i64 0, .int .i64 0, .int .i64 0, .int .i64 65536, .int .i64 0, .int .i64 0, .int .i64 655360, .slice none 0 0, .int .i64 0, .int .i64 F, .int .i64 FM.a, .int .i64 FM.b, .int .i64 FM.c, .int .i64 FM.d, .int .i64 FM.x, .int .i64 FM.y, .slice none 0 0, .bool dk, .int .i64 n, .slice va T.l.length vc] := Row.up (show Row _ w.heap.size #[.int .i64 C.a, .int .i64 C.b, .int .i64 C.c, .int .i64 C.d, .int .i64 C.x, .int .i64 C.y, .int .i64 1, .int .i64 0, .int .i64 0, .int .i64 0, .int .i64 0, .int .i64 65536, .int .i64 0, .int .i64 0, .int .i64 655360, .slice none 0 0, .int .i64 0, .int .i64 F, .int .i64 FM.a, .int .i64 FM.b, .int .i64 FM.c, .int .i64 FM.d, .int .i64 FM.x, .int .i64 FM.y, .slice none 0 0, .bool dk, .int .i64 n, .slice va T.l.length vc] by (repeat' (with_reducible first | assumption | (refine Row.at _ _ ?_; (simp; done)) | refine Row.alloc ?_ _ | refine Row.drew ?_ | refine Row.drewN ?_ _ | refine Row.other ?_ (by first | (simp; done) | (simp; omega) | omega) _ | refine Row.up ?_ (by assumption) | refine Row.chg ?_ (by assumption) (by first | (simp; done) | (simp; omega))))) hu2; have Bbw2 : Row w2 (w.heap.size + 1) #[.int .i64 6553600, .int .i64 6553600, .slice ra N rc, .int .i64 2, .slice none 0 0] := Row.up (show Row _ (w.heap.size + 1) #[.int .i64 6553600, .int .i64 6553600, .slice ra N rc, .int .i64 2, .slice none 0 0] by (repeat' (with_reducible first | assumption | (refine Row.at _ _ ?_; (simp; done)) | refine Row.alloc ?_ _ | refine Row.drew ?_ | refine Row.drewN ?_ _ | refine Row.other ?_ (by first | (simp; done) | (simp; omega) | omega) _ | refine Row.up ?_ (by assumption) | refine Row.chg ?_ (by assumption) (by first | (simp; done) | (simp; omega))))) hu2; have aw2 : w2.cell? ⟨w.heap.size, 27, none⟩ = some (.slice va T.l.length vc) := Baw2.cell 27 rfl; have bw2 : w2.cell? ⟨w.heap.size + 1, 2, none⟩ = some (.slice ra N rc) := Bbw2.cell 2 rfl; have law2 := Baw2.lt; have lbw2 := Bbw2.lt))
    | (go_at_call 14; ((with_reducible refine (items_calls c _ l1 _ ((show Row _ c (cvC v) from (by have hc3 := HCR.out; (repeat' (with_reducible first | assumption | (refine Row.at _ _ ?_; (simp; done)) | refine Row.alloc ?_ _ | refine Row.drew ?_ | refine Row.drewN ?_ _ | refine Row.other ?_ (by first | (simp; done) | (simp; omega) | omega) _ | refine Row.up ?_ (by assumption) | refine Row.chg ?_ (by assumption) (by first | (simp; done) | (simp; omega)))))).cell 2 rfl) (owned_up HC.out.its (by (repeat' (first | (with_reducible first | exact Up.refl _ | assumption | refine Up.alloc ?_ _ | refine Up.drew ?_ | refine Up.drewN ?_ _ | refine Up.setCell ?_ ?_ _ | refine Up.call ?_ (by assumption)) | go_size)))) (HC.out.bytes.chg (S := []) (Chg.of_up (by (repeat' (first | (with_reducible first | exact Up.refl _ | assumption | refine Up.alloc ?_ _ | refine Up.drew ?_ | refine Up.drewN ?_ _ | refine Up.setCell ?_ ?_ _ | refine Up.call ?_ (by assumption)) | go_size)))) (by simp)) HLB.out HLN.out HBS.out).mono ?_); rintro E w3 ⟨v3, l3, rfl, hm3, hi3, hu3⟩; have z3 := hu3.size; have Baw3 : Row w3 w.heap.size #[.int .i64 C.a, .int .i64 C.b, .int .i64 C.c, .int .i64 C.d, .int .i64 C.x, .int .i64 C.y, .int .i64 1, .int .i64 0, .int .i64 0, .int .i64 0, .int .i64 0, .int .i64 65536, .int .i64 0, .int .i64 0, .int .i64 655360, .slice none 0 0, .int .i64 0, .int .i64 F, .int .i64 FM.a, .int .i64 FM.b, .int .i64 FM.c, .int .i64 FM.d, .int .i64 FM.x, .int .i64 FM.y, .slice none 0 0, .bool dk, .int .i64 n, .slice va T.l.length vc] := Row.up (show Row _ w.heap.size #[.int .i64 C.a, .int .i64 C.b, .int .i64 C.c, .int .i64 C.d, .int .i64 C.x, .int .i64 C.y, .int .i64 1, .int .i64 0, .int .i64 0, .int .i64 0, .int .i64 0, .int .i64 65536, .int .i64 0, .int .i64 0, .int .i64 655360, .slice none 0 0, .int .i64 0, .int .i64 F, .int .i64 FM.a, .int .i64 FM.b, .int .i64 FM.c, .int .i64 FM.d, .int .i64 FM.x, .int .i64 FM.y, .slice none 0 0, .bool dk, .int .i64 n, .slice va T.l.length vc] by (repeat' (with_reducible first | assumption | (refine Row.at _ _ ?_; (simp; done)) | refine Row.alloc ?_ _ | refine Row.drew ?_ | refine Row.drewN ?_ _ | refine Row.other ?_ (by first | (simp; done) | (simp; omega) | omega) _ | refine Row.up ?_ (by assumption) | refine Row.chg ?_ (by assumption) (by first | (simp; done) | (simp; omega))))) hu3; have Bbw3 : Row w3 (w.heap.size + 1) #[.int .i64 6553600, .int .i64 6553600, .slice ra N rc, .int .i64 2, .slice none 0 0] := Row.up (show Row _ (w.heap.size + 1) #[.int .i64 6553600, .int .i64 6553600, .slice ra N rc, .int .i64 2, .slice none 0 0] by (repeat' (with_reducible first | assumption | (refine Row.at _ _ ?_; (simp; done)) | refine Row.alloc ?_ _ | refine Row.drew ?_ | refine Row.drewN ?_ _ | refine Row.other ?_ (by first | (simp; done) | (simp; omega) | omega) _ | refine Row.up ?_ (by assumption) | refine Row.chg ?_ (by assumption) (by first | (simp; done) | (simp; omega))))) hu3; have aw3 : w3.cell? ⟨w.heap.size, 27, none⟩ = some (.slice va T.l.length vc) := Baw3.cell 27 rfl; have bw3 : w3.cell? ⟨w.heap.size + 1, 2, none⟩ = some (.slice ra N rc) := Bbw3.cell 2 rfl; have law3 := Baw3.lt; have lbw3 := Bbw3.lt; have HE3 := Lib.hid (hi3.trans HE.out); have HM3 := Lib.hid (mid_its hm3 (hi3.trans HE.out) HN.out); have HMB := Lib.hid hm3.bytes; (obtain ⟨a3, c3, rfl⟩ := HM3.out.2.2); have HI3 := Lib.hid HM3.out.1; have HB3 := Lib.hid (show ∀ k ∈ l3, k.it.bs.length ≤ 1000000 from its_len hi3 HBS.out); clear hm3 hi3))
    | (go_at_call 13; ((with_reducible refine (sameItems_calls a3 ra N c3 rc l3 l2 _ HM3.out.2.1 (owned_up HI3.out (by (repeat' (first | (with_reducible first | exact Up.refl _ | assumption | refine Up.alloc ?_ _ | refine Up.drew ?_ | refine Up.drewN ?_ _ | refine Up.setCell ?_ ?_ _ | refine Up.call ?_ (by assumption)) | go_size)))) (owned_up HI2.out (by (repeat' (first | (with_reducible first | exact Up.refl _ | assumption | refine Up.alloc ?_ _ | refine Up.drew ?_ | refine Up.drewN ?_ _ | refine Up.setCell ?_ ?_ _ | refine Up.call ?_ (by assumption)) | go_size)))) (HMB.out.chg (S := []) (Chg.of_up (by (repeat' (first | (with_reducible first | exact Up.refl _ | assumption | refine Up.alloc ?_ _ | refine Up.drew ?_ | refine Up.drewN ?_ _ | refine Up.setCell ?_ ?_ _ | refine Up.call ?_ (by assumption)) | go_size)))) (by simp)) (HB2.out.chg (S := []) (Chg.of_up (by (repeat' (first | (with_reducible first | exact Up.refl _ | assumption | refine Up.alloc ?_ _ | refine Up.drew ?_ | refine Up.drewN ?_ _ | refine Up.setCell ?_ ?_ _ | refine Up.call ?_ (by assumption)) | go_size)))) (by simp)) HE3.out HLN2.out HB3.out).mono ?_); rintro E w4 ⟨rfl, hu4⟩; have z4 := hu4.size; have Baw4 : Row w4 w.heap.size #[.int .i64 C.a, .int .i64 C.b, .int .i64 C.c, .int .i64 C.d, .int .i64 C.x, .int .i64 C.y, .int .i64 1, .int .i64 0, .int .i64 0, .int .i64 0, .int .i64 0, .int .i64 65536, .int .i64 0, .int .i64 0, .int .i64 655360, .slice none 0 0, .int .i64 0, .int .i64 F, .int .i64 FM.a, .int .i64 FM.b, .int .i64 FM.c, .int .i64 FM.d, .int .i64 FM.x, .int .i64 FM.y, .slice none 0 0, .bool dk, .int .i64 n, .slice va T.l.length vc] := Row.up (show Row _ w.heap.size #[.int .i64 C.a, .int .i64 C.b, .int .i64 C.c, .int .i64 C.d, .int .i64 C.x, .int .i64 C.y, .int .i64 1, .int .i64 0, .int .i64 0, .int .i64 0, .int .i64 0, .int .i64 65536, .int .i64 0, .int .i64 0, .int .i64 655360, .slice none 0 0, .int .i64 0, .int .i64 F, .int .i64 FM.a, .int .i64 FM.b, .int .i64 FM.c, .int .i64 FM.d, .int .i64 FM.x, .int .i64 FM.y, .slice none 0 0, .bool dk, .int .i64 n, .slice va T.l.length vc] by (repeat' (with_reducible first | assumption | (refine Row.at _ _ ?_; (simp; done)) | refine Row.alloc ?_ _ | refine Row.drew ?_ | refine Row.drewN ?_ _ | refine Row.other ?_ (by first | (simp; done) | (simp; omega) | omega) _ | refine Row.up ?_ (by assumption) | refine Row.chg ?_ (by assumption) (by first | (simp; done) | (simp; omega))))) hu4; have Bbw4 : Row w4 (w.heap.size + 1) #[.int .i64 6553600, .int .i64 6553600, .slice ra N rc, .int .i64 2, .slice none 0 0] := Row.up (show Row _ (w.heap.size + 1) #[.int .i64 6553600, .int .i64 6553600, .slice ra N rc, .int .i64 2, .slice none 0 0] by (repeat' (with_reducible first | assumption | (refine Row.at _ _ ?_; (simp; done)) | refine Row.alloc ?_ _ | refine Row.drew ?_ | refine Row.drewN ?_ _ | refine Row.other ?_ (by first | (simp; done) | (simp; omega) | omega) _ | refine Row.up ?_ (by assumption) | refine Row.chg ?_ (by assumption) (by first | (simp; done) | (simp; omega))))) hu4; have aw4 : w4.cell? ⟨w.heap.size, 27, none⟩ = some (.slice va T.l.length vc) := Baw4.cell 27 rfl; have bw4 : w4.cell? ⟨w.heap.size + 1, 2, none⟩ = some (.slice ra N rc) := Bbw4.cell 2 rfl; have law4 := Baw4.lt; have lbw4 := Bbw4.lt)))
  all_goals go_wp2
  all_goals
    go_ret
    exact ⟨rfl, by (repeat' (first | (with_reducible first | exact Up.refl _ | assumption | refine Up.alloc ?_ _ | refine Up.drew ?_ | refine Up.drewN ?_ _ | refine Up.setCell ?_ ?_ _ | refine Up.call ?_ (by assumption)) | go_size))⟩

end Go.Proofs.YtjdbefpfjhdmoaaDoor.Sh
end

section
namespace Go.Proofs.YtjdbefpfjhdmoaaDoor.Sh
open Go.ChangeShapes Go.WideShapes Go.ChangeAt Go.RowKit
open Go.Proofs.YtjdbefpfjhdmoaaDoor.Gs
open Go.Proofs.YtjdbefpfjhdmoaaDoor.FixM (fits)
open Go.Proofs.YtjdbefpfjhdmoaaDoor.MatM (M6 concat)
open Go.Proofs.YtjdbefpfjhdmoaaDoor.PathM
set_option linter.unusedVariables false
set_option linter.unusedSimpArgs false

theorem show_calls (g p c : Nat) (C : M6) (F : Int) (FM : M6) (dk : Bool) (n : Int) (pv v : Value) (l : List Cl) (x y : Int) (ba : Option Addr) (bc : Nat) (bs : List Int) (w : World) (h : Prg w g p c C F FM dk n pv v (T1 n x y) l)
    (hxy : fitsP (x, y) = true) (hv : Ints .u8 w (.slice ba bs.length bc) bs) (hl : bs.length ≤ 65535) (hln : l.length < 4096) (hF1 : F < 14) (h4 : (Lit.int .i64 C.x).wf = true) (h5 : (Lit.int .i64 C.y).wf = true) (hT : Font.Tab w) :
    Calls Tryd.prog 11 #[.pointer (some ⟨c, 0, none⟩), .pointer (some ⟨g, 0, none⟩), .slice ba bs.length bc] w fun E w' =>
      E = .returned (.int .i64 (letR C F FM dk x y bs).1) ∧ Shown w g p c C F FM dk n pv v l (T1 n (letR C F FM dk x y bs).2.1.1 (letR C F FM dk x y bs).2.1.2) (letR C F FM dk x y bs).2.2 w' := by
  obtain ⟨hx, hy⟩ : fits x = true ∧ fits y = true := by simpa [fitsP] using hxy
  have stop : ∀ e, (letR C F FM dk x y bs) = (e, (x, y), []) → Calls Tryd.prog 11 #[.pointer (some ⟨c, 0, none⟩), .pointer (some ⟨g, 0, none⟩), .slice ba bs.length bc] w (fun E w' => E = .returned (.int .i64 e) ∧ Up w w') →
      Calls Tryd.prog 11 #[.pointer (some ⟨c, 0, none⟩), .pointer (some ⟨g, 0, none⟩), .slice ba bs.length bc] w fun E w' =>
      E = .returned (.int .i64 (letR C F FM dk x y bs).1) ∧ Shown w g p c C F FM dk n pv v l (T1 n (letR C F FM dk x y bs).2.1.1 (letR C F FM dk x y bs).2.1.2) (letR C F FM dk x y bs).2.2 w' := by
    intro e he hc
    rw [he]
    exact hc.mono (by rintro E w' ⟨rfl, hu⟩; exact ⟨rfl, Shown.same h hu⟩)
  by_cases hF : F < 0
  · exact stop 7 (by unfold letR; rw [if_pos hF]) (show_stop g p c C F FM dk n pv v _ l 0 0 ba bc _ bs w h rfl hv hl 7 (by unfold placeR; rw [if_pos hF]) (by decide))
  have hR : placeR F (T1 n x y) = ((x, y), 0) := by unfold placeR; rw [if_neg hF]; rfl
  obtain ⟨⟨⟨bx, bz⟩, be⟩, hB⟩ : ∃ X, farR F FM bs = X := ⟨_, rfl⟩
  by_cases hb : be = 0
  rotate_left
  · exact stop be (by unfold letR; rw [if_neg hF, hB, if_pos hb]) (show_far g p c C F FM dk n pv v _ l x y ba bc _ bs w h rfl hv hl hR bx bz be hB hb)
  subst hb
  obtain ⟨⟨⟨tx, tz⟩, te⟩, hM⟩ : ∃ X, movedR C x y bx bz = X := ⟨_, rfl⟩
  by_cases ht : te = 0
  rotate_left
  · exact stop te (by unfold letR; rw [if_neg hF, hB]; simp only [hM]; rw [if_neg (by decide), if_pos ht]) (show_mov g p c C F FM dk n pv v _ l x y ba bc _ bs w h rfl hv hl hR bx bz tx tz te hB hM ht)
  subst ht
  have hfp : fitsP (tx, tz) = true := by have := moved_fits C x y bx bz; rwa [hM] at this
  have hmv := move_T1 n x y tx tz hfp
  have hlk := last_T1 n x y
  by_cases h0 : 0 < bs.length
  rotate_left
  · have e : letR C F FM dk x y bs = (0, (tx, tz), []) := by unfold letR; rw [if_neg hF, hB]; simp only [hM]; rw [if_neg (by decide), if_neg (by decide), if_neg (fun h => h0 h.1)]
    rw [e]
    refine (show_empty g p c C F FM dk n pv v _ l x y ba bc _ bs w h rfl hv hl hR bx bz tx tz hB hM hlk (by rw [hmv]) (by omega)).mono ?_
    rintro E w' ⟨rfl, hs⟩
    rw [hmv] at hs
    exact ⟨rfl, hs⟩
  cases dk
  rotate_left
  · have e : letR C F FM true x y bs = (0, (tx, tz), []) := by unfold letR; rw [if_neg hF, hB]; simp only [hM]; rw [if_neg (by decide), if_neg (by decide), if_neg (fun h => by cases h.2)]
    rw [e]
    refine (show_dark g p c C F FM true n pv v _ l x y ba bc _ bs w h rfl hv hl hR bx bz tx tz hB hM hlk (by rw [hmv]) h0 rfl).mono ?_
    rintro E w' ⟨rfl, hs⟩
    rw [hmv] at hs
    exact ⟨rfl, hs⟩
  obtain ⟨⟨mm, me⟩, hC⟩ : ∃ X, concat FM C = X := ⟨_, rfl⟩
  by_cases hm : me = 0
  rotate_left
  · exact stop me (by unfold letR; rw [if_neg hF, hB]; simp only [hM]; rw [if_neg (by decide), if_neg (by decide), if_pos ⟨h0, trivial⟩, hC, if_pos hm]) (show_bad g p c C F FM false n pv v _ l x y ba bc _ bs w h rfl hv hl hR bx bz tx tz hB hM hlk (by rw [hmv]) h0 rfl h4 h5 mm me hC hm)
  subst hm
  have e : letR C F FM false x y bs = (0, (tx, tz), [⟨F, ⟨mm.a, mm.b, mm.c, mm.d, x, y⟩, bs⟩]) := by unfold letR matR; rw [if_neg hF, hB]; simp only [hM]; rw [if_neg (by decide), if_neg (by decide), if_pos ⟨h0, trivial⟩, hC, if_neg (fun h => h rfl)]
  have hfi := mat_fits C FM x y hx hy
  unfold matR at hfi
  rw [hC] at hfi
  rw [e]
  refine (show_good g p c C F FM false n pv v _ l x y ba bc _ bs w h rfl hv hl hR bx bz tx tz hB hM hlk (by rw [hmv]) h0 rfl h4 h5 mm (by rw [hC]) (by rw [hC]) hln (by omega) hF1 hT hfi).mono ?_
  rintro E w' ⟨rfl, hs⟩
  rw [hmv] at hs
  exact ⟨rfl, hs⟩
/-- without a font, or a place -/
theorem show_noplace (g p c : Nat) (C : M6) (F : Int) (FM : M6) (dk : Bool) (n : Int) (pv v : Value) (l : List Cl) (ba : Option Addr) (bc : Nat) (bs : List Int) (w : World) (h : Prg w g p c C F FM dk n pv v ⟨n, [], Z, Z⟩ l)
    (hv : Ints .u8 w (.slice ba bs.length bc) bs) (hl : bs.length ≤ 65535) :
    Calls Tryd.prog 11 #[.pointer (some ⟨c, 0, none⟩), .pointer (some ⟨g, 0, none⟩), .slice ba bs.length bc] w fun E w' => E = .returned (.int .i64 (if F < 0 then 7 else 10)) ∧ Up w w' := by
  by_cases hF : F < 0
  · rw [if_pos hF]
    exact show_stop g p c C F FM dk n pv v _ l 0 0 ba bc _ bs w h rfl hv hl 7 (by unfold placeR; rw [if_pos hF]) (by decide)
  · rw [if_neg hF]
    exact show_stop g p c C F FM dk n pv v _ l 0 0 ba bc _ bs w h rfl hv hl 10 (by unfold placeR; rw [if_neg hF]; rfl) (by decide)

end Go.Proofs.YtjdbefpfjhdmoaaDoor.Sh
end

section
namespace Go.Proofs.YtjdbefpfjhdmoaaDoor.Sh
open Go.ChangeShapes Go.WideShapes Go.ChangeAt Go.RowKit
open Go.Proofs.YtjdbefpfjhdmoaaDoor.Gs
open Go.Proofs.YtjdbefpfjhdmoaaDoor.FixM (fits)
open Go.Proofs.YtjdbefpfjhdmoaaDoor.MatM (M6)
open Go.Proofs.YtjdbefpfjhdmoaaDoor.PathM
set_option linter.unusedVariables false
set_option linter.unusedSimpArgs false

/-- a path that is a place, or none -/
def TO (n : Int) : Option (Int × Int) → St
  | none => ⟨n, [], Z, Z⟩
  | some q => T1 n q.1 q.2
def fitsO : Option (Int × Int) → Prop
  | none => True
  | some q => fitsP q = true
/-- what Show does -/
def stepR (C : M6) (F : Int) (FM : M6) (dk : Bool) (q : Option (Int × Int)) (bs : List Int) : Int × Option (Int × Int) × List It :=
  match q with
  | none => (if F < 0 then 7 else 10, none, [])
  | some q => ((letR C F FM dk q.1 q.2 bs).1, some (letR C F FM dk q.1 q.2 bs).2.1, (letR C F FM dk q.1 q.2 bs).2.2)
theorem step_fits {C : M6} {F : Int} {FM : M6} {dk : Bool} {q : Option (Int × Int)} {bs : List Int} (h : fitsO q) : fitsO (stepR C F FM dk q bs).2.1 := by
  cases q with
  | none => trivial
  | some q => exact let_fits (x := q.1) (y := q.2) h
theorem let_its (C : M6) (F : Int) (FM : M6) (dk : Bool) (x y : Int) (bs : List Int) : (letR C F FM dk x y bs).2.2.length ≤ 1 ∧ ∀ i ∈ (letR C F FM dk x y bs).2.2, i.bs = bs := by
  unfold letR
  split
  · simp
  · split
    · simp
    · split
      · simp
      · split
        · split
          · simp
          · simp
        · simp
theorem step_its (C : M6) (F : Int) (FM : M6) (dk : Bool) (q : Option (Int × Int)) (bs : List Int) : (stepR C F FM dk q bs).2.2.length ≤ 1 ∧ ∀ i ∈ (stepR C F FM dk q bs).2.2, i.bs = bs := by
  cases q with
  | none => simp [stepR]
  | some q => exact let_its C F FM dk q.1 q.2 bs
/-- a place, or none, behind open -/
theorem to_of {n x y : Int} {pl : Bool} {T : St} (hn : 1 ≤ n) (h : (if pl = true then (St.move ⟨n, [], Z, Z⟩ (x, y)).1 else ⟨n, [], Z, Z⟩) = T) : ∃ q, T = TO n q ∧ fitsO q := by
  subst h
  cases pl
  · exact ⟨none, rfl, trivial⟩
  · by_cases hf : fitsP (x, y) = true
    · refine ⟨some (x, y), ?_, hf⟩
      have h1 : ¬ n < 1 := by omega
      simp [St.move, St.add, hf, lastK, h1, TO, T1]
    · refine ⟨none, ?_, trivial⟩
      simp [St.move, hf, TO]
end Go.Proofs.YtjdbefpfjhdmoaaDoor.Sh
end
