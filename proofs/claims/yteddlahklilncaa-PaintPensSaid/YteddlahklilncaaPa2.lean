/- paint.own of any item. No condition but lengths that an append bears. -/
import Derived.Test.YteddlahklilncaaPa1
import Derived.OwnWalk
import Derived.Deep.CutRange
namespace Go.Proofs.Yteddlahklilncaa.Pt
open Go.ChangeShapes Go.WideShapes Go.ChangeAt Go.RowKit
open Go.Proofs.Yteddlahklilncaa.FixM (fits)
open Go.Proofs.Yteddlahklilncaa.PathM (Seg sound)
open Go.Proofs.Yteddlahklilncaa.MatM (M6)
set_option linter.unusedVariables false
set_option linter.unusedSimpArgs false
open Go.Proofs.Yteddlahklilncaa.PathM (segCells)
theorem infoItem : (Try.prog.info? 55).map (·.size) = some 22 := by kernel_rfl

theorem cast {w : World} {b : Nat} {cs cs2 : Array Value} (h : Row w b cs) (e : cs = cs2) : Row w b cs2 := e ▸ h
theorem rng0 {W : World} {b : Nat} {cs : Array Value} (h : Row W b cs) : W.rangeAt b 0 cs.toList := fun j v hj => by
  rw [Nat.zero_add]
  exact h.cell j (by simpa using hj)
theorem infoC2 : (Try.prog.info? 118).map (fun i => (i.zero, i.size, i.bytes)) = some (some (.agg #[.slice none 0 0, .bool false]), 2, 32) := by kernel_rfl
theorem own_slice {a : Option Addr} {n c : Nat} {g : Nat} (h : g ∈ own (.slice a n c)) : ∃ x, a = some x ∧ x.block = g := by
  cases a with
  | none => simp [own, Value.ownBlock] at h
  | some x => simp [own, Value.ownBlock] at h; exact ⟨x, rfl, h.symm⟩
theorem own_nodup (v : Value) : (own v).Nodup := by
  unfold own
  cases v.ownBlock <;> simp
theorem clipCells_append (l m : List Clip) : clipCells (l ++ m) = clipCells l ++ clipCells m := by simp [clipCells]
/-- clips that were cloned so far -/
structure MidC (w : World) (base : Nat) (v : Value) (l : List Clip) : Prop where
  its : w.ownsRow base 118 2 v l.length (clipCells l)
  cs : ∀ c ∈ l, Path.Segs w c.v c.l
  lo : ∀ c ∈ l, ∀ b ∈ own c.v, base ≤ b ∧ b < w.heap.size
  nd : (own v ++ l.flatMap (fun c => own c.v)).Nodup
theorem MidC.up {w w1 : World} {base : Nat} {v : Value} {l : List Clip} (h : MidC w base v l) (hu : Up w w1) : MidC w1 base v l :=
  ⟨raw_up h.its hu, fun c hc => owned_up (h.cs c hc) hu, fun c hc b hb => ⟨(h.lo c hc b hb).1, Nat.lt_of_lt_of_le (h.lo c hc b hb).2 hu.size⟩, h.nd⟩
theorem MidC.more {w w1 w2 : World} {base g2 cap2 H : Nat} {v : Value} {l : List Clip} (h : MidC w base v l) (hu : Up w w1) {k : Clip} (hk : Path.Segs w1 k.v k.l) (hf : ∀ b ∈ own k.v, w.heap.size ≤ b ∧ b < w1.heap.size)
    (hc : Chg (own v) w1 w2) (hat : v.ownBlock = some g2 ∨ g2 = H) (hH : w1.heap.size ≤ H) (hb : base ≤ w.heap.size)
    (ho : w2.ownsRow base 118 2 (.slice (some ⟨g2, 0, none⟩) (l.length + 1) cap2) (l.length + 1) (clipCells l ++ k.cells)) : MidC w2 base (.slice (some ⟨g2, 0, none⟩) (l.length + 1) cap2) (l ++ [k]) := by
  have hs := hu.size
  have hv : ∀ b ∈ own v, b < w.heap.size := fun b hb => (h.its.lt b (own_of hb)).2
  have hz := hc.size
  have nd := List.nodup_append.1 h.nd
  refine ⟨?_, ?_, ?_, ?_⟩
  · have e1 : (l ++ [k]).length = l.length + 1 := by simp
    have e2 : clipCells (l ++ [k]) = clipCells l ++ k.cells := by rw [clipCells_append]; simp [clipCells]
    rw [e1, e2]
    exact ho
  · intro c hc2
    rcases List.mem_append.1 hc2 with h1 | h1
    · refine owned_chg (owned_up (h.cs c h1) hu) hc (fun g hg h3 => ?_)
      exact nd.2.2 g h3 g (List.mem_flatMap.2 ⟨c, h1, own_mem hg⟩) rfl
    · rw [List.mem_singleton.1 h1]
      exact owned_chg hk hc (fun g hg h3 => by have := (hf g (own_mem hg)).1; have := hv g h3; omega)
  · intro c hc2 b hb2
    rcases List.mem_append.1 hc2 with h1 | h1
    · have := h.lo c h1 b hb2; exact ⟨this.1, by omega⟩
    · rw [List.mem_singleton.1 h1] at hb2
      have := hf b hb2; exact ⟨by omega, by omega⟩
  · have hg2 : ∀ b ∈ l.flatMap (fun c => own c.v), b ≠ g2 := fun b hb2 e => by
      obtain ⟨c, h1, h2⟩ := List.mem_flatMap.1 hb2
      rcases hat with h3 | h3
      · subst e; exact nd.2.2 b (own_mem h3) b hb2 rfl
      · have := (h.lo c h1 b h2).2; omega
    have hk2 : ∀ b ∈ own k.v, b ≠ g2 := fun b hb2 e => by
      rcases hat with h3 | h3
      · have := hv g2 (own_mem h3); have := (hf b hb2).1; omega
      · have := (hf b hb2).2; omega
    rw [List.flatMap_append]
    simp only [List.flatMap_cons, List.flatMap_nil, List.append_nil]
    refine List.nodup_append.2 ⟨own_nodup _, List.nodup_append.2 ⟨nd.2.1, own_nodup _, ?_⟩, ?_⟩
    · intro a ha b hb2 e
      subst e
      obtain ⟨c, h1, h2⟩ := List.mem_flatMap.1 ha
      have := (h.lo c h1 a h2).2
      have := (hf a hb2).1
      omega
    · intro a ha b hb2 e
      subst e
      have ha := own_of ha
      simp only [Value.ownBlock, Option.some.injEq] at ha
      subst ha
      rcases List.mem_append.1 hb2 with h1 | h1
      · exact hg2 _ h1 rfl
      · exact hk2 _ h1 rfl
theorem s2_of {w : World} {b : Nat} {x y : Value} (h : Row w b #[x, y]) : w.cell? ⟨b, 0, none⟩ = some x ∧ w.cell? ⟨b, 1, none⟩ = some y := ⟨h.cell 0 rfl, h.cell 1 rfl⟩
theorem take_map_succ {α β : Type} {f : α → β} {l : List α} {k : Nat} {c : α} (h : l[k]? = some c) : (l.take (k + 1)).map f = (l.take k).map f ++ [f c] := by
  obtain ⟨hlt, e⟩ := List.getElem?_eq_some_iff.1 h
  rw [List.take_succ_eq_append_getElem hlt, List.map_append, e]
  rfl
theorem _root_.Go.Proofs.Yteddlahklilncaa.Chg.up_base {S : List Nat} {w w1 : World} (h : Chg S w w1) (hs : ∀ k ∈ S, w.heap.size ≤ k) : Up w w1 := ((Chg.of_up (S := []) (Up.refl w)).call h (fun k hk => Or.inr (hs k hk))).up
theorem results_own (tmps : Array Value) (w : World) (b1 : Nat) (cs : Array Value) (e2 : tmps.getD 2 undef = .pointer (some ⟨b1, 0, none⟩)) (h1 : Row w b1 cs) (hs1 : cs.size = 22) :
    (results Try.f49 tmps).run Try.prog w = .ok (.agg cs) w := by
  rw [Array.getD_eq_getD_getElem?] at e2
  have hl1 := run_loadAt_mid (P := Try.prog) w b1 0 55 cs.toList _ (rng0 h1) Try.underlying55 rfl (by rw [Array.length_toList, hs1]; exact infoItem)
  simp [results, Try.results49, go_sem, e2] at hl1
  simp [results, Try.results49, go_sem, e2, hl1]

/-- the item's box and the result's -/
structure Boxes (k : Int) (pa : Option Addr) (pl pc : Nat) (sp p0 p1 p2 p3 : Int) (ca : Option Addr) (cl cc : Nat) (wd cp jn mt : Int) (da : Option Addr) (dl dc : Nat) (ph fn : Int) (m : M6) (ba : Option Addr) (bl bc : Nat) (B : Nat) (w : World) : Prop where
  r : Row w B #[.int .i64 k, .slice pa pl pc, .int .i64 sp, .int .i64 p0, .int .i64 p1, .int .i64 p2, .int .i64 p3, .slice ca cl cc, .int .i64 wd, .int .i64 cp, .int .i64 jn, .int .i64 mt, .slice da dl dc, .int .i64 ph, .int .i64 fn, .int .i64 m.a, .int .i64 m.b, .int .i64 m.c, .int .i64 m.d, .int .i64 m.x, .int .i64 m.y, .slice ba bl bc]
  z : Row w (B + 1) #[.int .i64 0, .slice none 0 0, .int .i64 0, .int .i64 0, .int .i64 0, .int .i64 0, .int .i64 0, .slice none 0 0, .int .i64 0, .int .i64 0, .int .i64 0, .int .i64 0, .slice none 0 0, .int .i64 0, .int .i64 0, .int .i64 0, .int .i64 0, .int .i64 0, .int .i64 0, .int .i64 0, .int .i64 0, .slice none 0 0]
theorem Boxes.up {k : Int} {pa : Option Addr} {pl pc : Nat} {sp p0 p1 p2 p3 : Int} {ca : Option Addr} {cl cc : Nat} {wd cp jn mt : Int} {da : Option Addr} {dl dc : Nat} {ph fn : Int} {m : M6} {ba : Option Addr} {bl bc : Nat} {B : Nat} {w w1 : World} (h : Boxes k pa pl pc sp p0 p1 p2 p3 ca cl cc wd cp jn mt da dl dc ph fn m ba bl bc B w) (hu : Up w w1) : Boxes k pa pl pc sp p0 p1 p2 p3 ca cl cc wd cp jn mt da dl dc ph fn m ba bl bc B w1 := ⟨h.r.up hu, h.z.up hu⟩
theorem Boxes.cells {k : Int} {pa : Option Addr} {pl pc : Nat} {sp p0 p1 p2 p3 : Int} {ca : Option Addr} {cl cc : Nat} {wd cp jn mt : Int} {da : Option Addr} {dl dc : Nat} {ph fn : Int} {m : M6} {ba : Option Addr} {bl bc : Nat} {B : Nat} {w : World} (h : Boxes k pa pl pc sp p0 p1 p2 p3 ca cl cc wd cp jn mt da dl dc ph fn m ba bl bc B w) : w.cell? ⟨B, 1, none⟩ = some (.slice pa pl pc) ∧ w.cell? ⟨B, 12, none⟩ = some (.slice da dl dc) ∧ w.cell? ⟨B, 21, none⟩ = some (.slice ba bl bc) ∧ w.frozen? ⟨B, 1, none⟩ = false ∧ w.frozen? ⟨B, 12, none⟩ = false ∧ w.frozen? ⟨B, 21, none⟩ = false ∧ B < w.heap.size :=
  ⟨h.r.cell 1 rfl, h.r.cell 12 rfl, h.r.cell 21 rfl, h.r.free 1, h.r.free 12, h.r.free 21, h.r.lt⟩
/-- what the three clones leave -/
structure Cloned (k : Int) (pa : Option Addr) (pl pc : Nat) (sp p0 p1 p2 p3 : Int) (ca : Option Addr) (cl cc : Nat) (wd cp jn mt : Int) (da : Option Addr) (dl dc : Nat) (ph fn : Int) (m : M6) (ba : Option Addr) (bl bc : Nat) (l : List Seg) (cs : List Clip) (ds bs : List Int) (w wx : World) (a8 : Option Addr) (c8 : Nat) (a11 : Option Addr) (c11 : Nat) (a15 : Option Addr) (c15 : Nat) : Prop where
  rf : Row wx w.heap.size #[.int .i64 k, .slice a8 pl c8, .int .i64 sp, .int .i64 p0, .int .i64 p1, .int .i64 p2, .int .i64 p3, .slice ca cl cc, .int .i64 wd, .int .i64 cp, .int .i64 jn, .int .i64 mt, .slice a15 dl c15, .int .i64 ph, .int .i64 fn, .int .i64 m.a, .int .i64 m.b, .int .i64 m.c, .int .i64 m.d, .int .i64 m.x, .int .i64 m.y, .slice a11 bl c11]
  rz : Row wx (w.heap.size + 1) #[.int .i64 0, .slice none 0 0, .int .i64 0, .int .i64 0, .int .i64 0, .int .i64 0, .int .i64 0, .slice none 0 0, .int .i64 0, .int .i64 0, .int .i64 0, .int .i64 0, .slice none 0 0, .int .i64 0, .int .i64 0, .int .i64 0, .int .i64 0, .int .i64 0, .int .i64 0, .int .i64 0, .int .i64 0, .slice none 0 0]
  pv : Path.Segs wx (.slice a8 pl c8) l
  bv : wx.ownsRow 0 5 1 (.slice a11 bl c11) bl (bs.map (Value.int .u8))
  dv : wx.ownsRow 0 3 1 (.slice a15 dl c15) dl (ds.map (Value.int .i64))
  nd : (own (.slice a8 pl c8) ++ (own (.slice a11 bl c11) ++ own (.slice a15 dl c15))).Nodup
  lo : ∀ g ∈ own (.slice a8 pl c8) ++ (own (.slice a11 bl c11) ++ own (.slice a15 dl c15)), w.heap.size + 2 ≤ g ∧ g < wx.heap.size
  up : Up w wx
theorem cloned_mk {k : Int} {pa : Option Addr} {pl pc : Nat} {sp p0 p1 p2 p3 : Int} {ca : Option Addr} {cl cc : Nat} {wd cp jn mt : Int} {da : Option Addr} {dl dc : Nat} {ph fn : Int} {m : M6} {ba : Option Addr} {bl bc : Nat} {l : List Seg} {cs : List Clip} {ds bs : List Int} {w wa wb wc wf : World} {a8 : Option Addr} {c8 : Nat} {a11 : Option Addr} {c11 : Nat} {a15 : Option Addr} {c15 : Nat} (hP : l.length = pl)
    (hA : wa.ownsRow 0 82 7 (.slice a8 pl c8) pl (segCells l)) (hfA : ∀ g ∈ own (.slice a8 pl c8), w.heap.size + 2 ≤ g ∧ g < wa.heap.size)
    (hB : wb.ownsRow 0 5 1 (.slice a11 bl c11) bl (bs.map (Value.int .u8))) (hfB : ∀ g ∈ own (.slice a11 bl c11), wa.heap.size ≤ g ∧ g < wb.heap.size)
    (hC : wc.ownsRow 0 3 1 (.slice a15 dl c15) dl (ds.map (Value.int .i64))) (hfC : ∀ g ∈ own (.slice a15 dl c15), wb.heap.size ≤ g ∧ g < wc.heap.size)
    (ub : Up wa wb) (uc : Up wb wc) (hcf : Chg [w.heap.size] wc wf) (u : Up w wc) (hs : w.heap.size + 2 ≤ wa.heap.size) (rf : Row wf w.heap.size #[.int .i64 k, .slice a8 pl c8, .int .i64 sp, .int .i64 p0, .int .i64 p1, .int .i64 p2, .int .i64 p3, .slice ca cl cc, .int .i64 wd, .int .i64 cp, .int .i64 jn, .int .i64 mt, .slice a15 dl c15, .int .i64 ph, .int .i64 fn, .int .i64 m.a, .int .i64 m.b, .int .i64 m.c, .int .i64 m.d, .int .i64 m.x, .int .i64 m.y, .slice a11 bl c11]) (rz : Row wf (w.heap.size + 1) #[.int .i64 0, .slice none 0 0, .int .i64 0, .int .i64 0, .int .i64 0, .int .i64 0, .int .i64 0, .slice none 0 0, .int .i64 0, .int .i64 0, .int .i64 0, .int .i64 0, .slice none 0 0, .int .i64 0, .int .i64 0, .int .i64 0, .int .i64 0, .int .i64 0, .int .i64 0, .int .i64 0, .int .i64 0, .slice none 0 0]) : Cloned k pa pl pc sp p0 p1 p2 p3 ca cl cc wd cp jn mt da dl dc ph fn m ba bl bc l cs ds bs w wf a8 c8 a11 c11 a15 c15 := by
  have zb := ub.size
  have zc := uc.size
  have zf := hcf.size
  have no : ∀ {v : Value}, (∀ g ∈ own v, w.heap.size + 2 ≤ g) → ∀ g, v.ownBlock = some g → g ∉ [w.heap.size] := fun h g hg h2 => by
    have := h g (own_mem hg)
    simp at h2
    omega
  refine ⟨rf, rz, ?_, ?_, ?_, ?_, ?_, (((Chg.of_up (S := []) u).call hcf (fun k hk => Or.inr (by simp at hk; omega))).up)⟩
  · have h1 := owned_chg (owned_up (owned_up hA ub) uc) hcf (no (fun g hg => (hfA g hg).1))
    show wf.ownsRow 0 _ 7 _ l.length _
    rw [hP]
    exact h1
  · exact owned_chg (owned_up hB uc) hcf (no (fun g hg => by have := hfB g hg; omega))
  · exact owned_chg hC hcf (no (fun g hg => by have := hfC g hg; omega))
  · refine List.nodup_append.2 ⟨own_nodup _, List.nodup_append.2 ⟨own_nodup _, own_nodup _, ?_⟩, ?_⟩
    · intro a ha b hb e
      have := hfB a ha; have := hfC b hb; omega
    · intro a ha b hb e
      have := hfA a ha
      rcases List.mem_append.1 hb with h1 | h1
      · have := hfB b h1; omega
      · have := hfC b h1; omega
  · intro g hg
    rcases List.mem_append.1 hg with h1 | h1
    · have := hfA g h1; exact ⟨by omega, by omega⟩
    rcases List.mem_append.1 h1 with h1 | h1
    · have := hfB g h1; exact ⟨by omega, by omega⟩
    · have := hfC g h1; exact ⟨by omega, by omega⟩

theorem own_mk {k : Int} {pa : Option Addr} {pl pc : Nat} {sp p0 p1 p2 p3 : Int} {ca : Option Addr} {cl cc : Nat} {wd cp jn mt : Int} {da : Option Addr} {dl dc : Nat} {ph fn : Int} {m : M6} {ba : Option Addr} {bl bc : Nat} {l : List Seg} {cs : List Clip} {ds bs : List Int} {w wf wr w3 : World} {a8 : Option Addr} {c8 : Nat} {a11 : Option Addr} {c11 : Nat} {a15 : Option Addr} {c15 : Nat} {a7 : Option Addr} {c7 : Nat} {l1 : List Clip} (h : Cloned k pa pl pc sp p0 p1 p2 p3 ca cl cc wd cp jn mt da dl dc ph fn m ba bl bc l cs ds bs w wf a8 c8 a11 c11 a15 c15) (hm : MidC wr wf.heap.size (.slice a7 cl c7) l1) (hN : l1.length = cl)
    (hd : l1.map (fun c => (c.l, c.eo)) = cs.map (fun c => (c.l, c.eo))) (hu : Up wf wr) (hc : Chg [w.heap.size, w.heap.size + 1] wr w3) :
    l1.map (fun c => (c.l, c.eo)) = cs.map (fun c => (c.l, c.eo)) ∧ Path.Segs w3 (.slice a8 pl c8) l ∧ w3.ownsRow 0 5 1 (.slice a11 bl c11) bl (bs.map (Value.int .u8)) ∧ w3.ownsRow 0 3 1 (.slice a15 dl c15) dl (ds.map (Value.int .i64)) ∧ w3.ownsRow 0 118 2 (.slice a7 cl c7) l1.length (clipCells l1) ∧ (∀ c ∈ l1, Path.Segs w3 c.v c.l) ∧
      (own (.slice a8 pl c8) ++ (own (.slice a11 bl c11) ++ (own (.slice a15 dl c15) ++ (own (.slice a7 cl c7) ++ l1.flatMap (fun c => own c.v))))).Nodup ∧ (∀ g ∈ own (.slice a8 pl c8) ++ (own (.slice a11 bl c11) ++ (own (.slice a15 dl c15) ++ (own (.slice a7 cl c7) ++ l1.flatMap (fun c => own c.v)))), w.heap.size ≤ g ∧ g < w3.heap.size) ∧ Up w w3 := by
  have zr := hu.size
  have z3 := hc.size
  have zw := h.up.size
  have zl : w.heap.size + 2 ≤ wf.heap.size := by have := h.rz.lt; omega
  have A : ∀ g ∈ own (.slice a8 pl c8), w.heap.size + 2 ≤ g ∧ g < wf.heap.size := fun g hg => h.lo g (by simp [hg])
  have B : ∀ g ∈ own (.slice a11 bl c11), w.heap.size + 2 ≤ g ∧ g < wf.heap.size := fun g hg => h.lo g (by simp [hg])
  have C : ∀ g ∈ own (.slice a15 dl c15), w.heap.size + 2 ≤ g ∧ g < wf.heap.size := fun g hg => h.lo g (by simp [hg])
  have D : ∀ g ∈ own (.slice a7 cl c7) ++ l1.flatMap (fun c => own c.v), wf.heap.size ≤ g ∧ g < wr.heap.size := fun g hg => by
    rcases List.mem_append.1 hg with h1 | h1
    · exact hm.its.lt g (own_of h1)
    · obtain ⟨c, hc1, hc2⟩ := List.mem_flatMap.1 h1
      exact hm.lo c hc1 g hc2
  have no : ∀ {v : Value}, (∀ g ∈ own v, w.heap.size + 2 ≤ g) → ∀ g, v.ownBlock = some g → g ∉ [w.heap.size, w.heap.size + 1] := fun hv g hg h2 => by
    have := hv g (own_mem hg)
    simp at h2
    omega
  have nd := List.nodup_append.1 h.nd
  have nd2 := List.nodup_append.1 nd.2.1
  refine ⟨hd, owned_chg (owned_up h.pv hu) hc (no (fun g hg => (A g hg).1)), owned_chg (owned_up h.bv hu) hc (no (fun g hg => (B g hg).1)), owned_chg (owned_up h.dv hu) hc (no (fun g hg => (C g hg).1)),
    owned_chg (owned_new hm.its).1 hc (no (fun g hg => by have := D g (List.mem_append_left _ hg); omega)), fun c hc1 => owned_chg (hm.cs c hc1) hc (no (fun g hg => by have := D g (List.mem_append_right _ (List.mem_flatMap.2 ⟨c, hc1, hg⟩)); omega)), ?_, ?_, ?_⟩
  · refine List.nodup_append.2 ⟨own_nodup _, List.nodup_append.2 ⟨own_nodup _, List.nodup_append.2 ⟨own_nodup _, hm.nd, ?_⟩, ?_⟩, ?_⟩
    · intro a ha b hb e
      have := C a ha; have := D b hb; omega
    · intro a ha b hb e
      rcases List.mem_append.1 hb with h1 | h1
      · exact nd2.2.2 a ha b h1 e
      · have := B a ha; have := D b h1; omega
    · intro a ha b hb e
      rcases List.mem_append.1 hb with h1 | h1
      · exact nd.2.2 a ha b (List.mem_append_left _ h1) e
      rcases List.mem_append.1 h1 with h1 | h1
      · exact nd.2.2 a ha b (List.mem_append_right _ h1) e
      · have := A a ha; have := D b h1; omega
  · intro g hg
    rcases List.mem_append.1 hg with h1 | h1
    · have := A g h1; exact ⟨by omega, by omega⟩
    rcases List.mem_append.1 h1 with h1 | h1
    · have := B g h1; exact ⟨by omega, by omega⟩
    rcases List.mem_append.1 h1 with h1 | h1
    · have := C g h1; exact ⟨by omega, by omega⟩
    · have := D g h1; exact ⟨by omega, by omega⟩
  · exact ((Chg.of_up (S := []) (Up.call h.up hu)).call hc (fun k hk => Or.inr (by simp at hk; omega))).up

set_option maxRecDepth 8000 in
set_option maxHeartbeats 16000000 in
theorem own_calls (k : Int) (pa : Option Addr) (pl pc : Nat) (sp p0 p1 p2 p3 : Int) (ca : Option Addr) (cl cc : Nat) (wd cp jn mt : Int) (da : Option Addr) (dl dc : Nat) (ph fn : Int) (m : M6) (ba : Option Addr) (bl bc : Nat) (l : List Seg) (cs : List Clip) (ds bs : List Int) (w : World) (hP : Src w (.slice pa pl pc) 7 pl (segCells l)) (hPn : l.length = pl) (hB : Src w (.slice ba bl bc) 1 bl (bs.map (Value.int .u8))) (hD : Src w (.slice da dl dc) 1 dl (ds.map (Value.int .i64))) (hC : Sl 2 Clip.cells w ca cl cc cs) (hCs : ∀ c ∈ cs, Src w c.v 7 c.l.length (segCells c.l))
    (hl1 : pl ≤ 10000) (hl2 : bl ≤ 100000) (hl3 : dl ≤ 10000) (hl4 : cl ≤ 100) (hl5 : ∀ c ∈ cs, c.l.length ≤ 10000) :
    Calls Try.prog 49 #[.agg #[.int .i64 k, .slice pa pl pc, .int .i64 sp, .int .i64 p0, .int .i64 p1, .int .i64 p2, .int .i64 p3, .slice ca cl cc, .int .i64 wd, .int .i64 cp, .int .i64 jn, .int .i64 mt, .slice da dl dc, .int .i64 ph, .int .i64 fn, .int .i64 m.a, .int .i64 m.b, .int .i64 m.c, .int .i64 m.d, .int .i64 m.x, .int .i64 m.y, .slice ba bl bc]] w fun E w' => ∃ a8 c8 a11 c11 a15 c15 a7 c7 cs', E = .returned (.agg #[.int .i64 k, .slice a8 pl c8, .int .i64 sp, .int .i64 p0, .int .i64 p1, .int .i64 p2, .int .i64 p3, .slice a7 cl c7, .int .i64 wd, .int .i64 cp, .int .i64 jn, .int .i64 mt, .slice a15 dl c15, .int .i64 ph, .int .i64 fn, .int .i64 m.a, .int .i64 m.b, .int .i64 m.c, .int .i64 m.d, .int .i64 m.x, .int .i64 m.y, .slice a11 bl c11]) ∧ cs'.map (fun c => (c.l, c.eo)) = cs.map (fun c => (c.l, c.eo)) ∧
      Path.Segs w' (.slice a8 pl c8) l ∧ w'.ownsRow 0 5 1 (.slice a11 bl c11) bl (bs.map (Value.int .u8)) ∧ w'.ownsRow 0 3 1 (.slice a15 dl c15) dl (ds.map (Value.int .i64)) ∧ w'.ownsRow 0 118 2 (.slice a7 cl c7) cs'.length (clipCells cs') ∧ (∀ c ∈ cs', Path.Segs w' c.v c.l) ∧
      (own (.slice a8 pl c8) ++ (own (.slice a11 bl c11) ++ (own (.slice a15 dl c15) ++ (own (.slice a7 cl c7) ++ cs'.flatMap (fun c => own c.v))))).Nodup ∧ (∀ g ∈ own (.slice a8 pl c8) ++ (own (.slice a11 bl c11) ++ (own (.slice a15 dl c15) ++ (own (.slice a7 cl c7) ++ cs'.flatMap (fun c => own c.v)))), w.heap.size ≤ g ∧ g < w'.heap.size) ∧ Up w w' := by
  obtain ⟨i0, hi, hz0, hz1, hz2⟩ := info_parts3 infoC2
  have HP := Lib.hid hP
  have HB := Lib.hid hB
  have HD := Lib.hid hD
  have HPN := Lib.hid hPn
  have HCN := Lib.hid hC.2.2.1
  have HCC := Lib.hid hC.2.2.2.2
  have HCS := Lib.hid hCs
  have HL5 := Lib.hid hl5
  clear hP hB hD hPn hC hCs hl5
  go_enter Try.func49, Try.ntmps49
  go_wp2
  go_cut [] from 20 (fun wx => Hid (∃ a8 c8 a11 c11 a15 c15, Cloned k pa pl pc sp p0 p1 p2 p3 ca cl cc wd cp jn mt da dl dc ph fn m ba bl bc l cs ds bs w wx a8 c8 a11 c11 a15 c15))
  case first =>
    generalize hW0 : World.alloc (World.alloc w _) _ = W0
    have u0 : Up w W0 := by rw [← hW0]; exact (by (repeat' (first | (with_reducible exact Up.refl _) | (with_reducible assumption) | (with_reducible refine Up.alloc ?_ _) | (with_reducible refine Up.drew ?_) | (with_reducible refine Up.drewN ?_ _) | (with_reducible refine Up.setCell ?_ ?_ _) | (with_reducible refine Up.call ?_ (by with_reducible assumption)) | go_size)))
    have z0 : W0.heap.size = w.heap.size + 1 + 1 := by rw [← hW0]; simp
    have HK : Hid (Boxes k pa pl pc sp p0 p1 p2 p3 ca cl cc wd cp jn mt da dl dc ph fn m ba bl bc w.heap.size W0.drew) := Lib.hid ⟨by rw [← hW0]; exact (show Row _ w.heap.size #[.int .i64 k, .slice pa pl pc, .int .i64 sp, .int .i64 p0, .int .i64 p1, .int .i64 p2, .int .i64 p3, .slice ca cl cc, .int .i64 wd, .int .i64 cp, .int .i64 jn, .int .i64 mt, .slice da dl dc, .int .i64 ph, .int .i64 fn, .int .i64 m.a, .int .i64 m.b, .int .i64 m.c, .int .i64 m.d, .int .i64 m.x, .int .i64 m.y, .slice ba bl bc] by (repeat' (first | (with_reducible assumption) | (with_reducible refine Row.at _ _ ?_; (simp; done)) | (with_reducible refine Row.alloc ?_ _) | (with_reducible refine Row.drew ?_) | (with_reducible refine Row.drewN ?_ _) | (with_reducible refine Row.other ?_ (by first | (simp; done) | (simp; omega) | omega) _) | (with_reducible refine Row.up ?_ (by with_reducible assumption)) | (with_reducible refine Row.chg ?_ (by with_reducible assumption) (by first | (simp; done) | (simp; omega)))))), by rw [← hW0]; exact (show Row _ (w.heap.size + 1) #[.int .i64 0, .slice none 0 0, .int .i64 0, .int .i64 0, .int .i64 0, .int .i64 0, .int .i64 0, .slice none 0 0, .int .i64 0, .int .i64 0, .int .i64 0, .int .i64 0, .slice none 0 0, .int .i64 0, .int .i64 0, .int .i64 0, .int .i64 0, .int .i64 0, .int .i64 0, .int .i64 0, .int .i64 0, .slice none 0 0] by (repeat' (first | (with_reducible assumption) | (with_reducible refine Row.at _ _ ?_; (simp; done)) | (with_reducible refine Row.alloc ?_ _) | (with_reducible refine Row.drew ?_) | (with_reducible refine Row.drewN ?_ _) | (with_reducible refine Row.other ?_ (by first | (simp; done) | (simp; omega) | omega) _) | (with_reducible refine Row.up ?_ (by with_reducible assumption)) | (with_reducible refine Row.chg ?_ (by with_reducible assumption) (by first | (simp; done) | (simp; omega))))))⟩
    obtain ⟨cc1, cc12, cc21, fr1, fr12, fr21, lb⟩ := HK.out.cells
    clear hW0
    refine wp_region_held_drew (S := fun _ => True) (by kernel_rfl) ?_ (fun hHeld => ?_)
    · exact trivial
    refine wpAnyH_take (i := 0) (v := ?_) rfl (by kernel_rfl) (by kernel_rfl) (by kernel_rfl) (fun _ _ _ h => h) (Or.inl ⟨by rfl, ?_⟩) (by assumption) ?_
    rotate_left
    · intro w2 hSw
      (try dsimp only at hSw)
      (try (obtain ⟨hs1, hs2, hs3⟩ := hSw))
      go_simp
      (try (with_reducible rfl))
    (try simp only [Act.put, List.getElem_toArray, List.getElem_cons_zero, List.getElem_cons_succ, List.setIfInBounds_toArray, List.set_cons_zero, List.set_cons_succ])
    refine wpAnyH_take (i := 3) (v := ?_) rfl (by kernel_rfl) (by kernel_rfl) (by kernel_rfl) (fun _ _ _ h => h) (Or.inl ⟨by rfl, ?_⟩) (by assumption) ?_
    rotate_left
    · intro w2 hSw
      (try dsimp only at hSw)
      (try (obtain ⟨hs1, hs2, hs3⟩ := hSw))
      go_simp
      (try (with_reducible rfl))
    (try simp only [Act.put, List.getElem_toArray, List.getElem_cons_zero, List.getElem_cons_succ, List.setIfInBounds_toArray, List.set_cons_zero, List.set_cons_succ])
    refine wpAnyH_take (i := 6) (v := ?_) rfl (by kernel_rfl) (by kernel_rfl) (by kernel_rfl) (fun _ _ _ h => h) (Or.inl ⟨by rfl, ?_⟩) (by assumption) ?_
    rotate_left
    · intro w2 hSw
      (try dsimp only at hSw)
      (try (obtain ⟨hs1, hs2, hs3⟩ := hSw))
      go_simp
      (try (with_reducible rfl))
    (try simp only [Act.put, List.getElem_toArray, List.getElem_cons_zero, List.getElem_cons_succ, List.setIfInBounds_toArray, List.set_cons_zero, List.set_cons_succ])
    refine wpAnyH_take (i := 7) (v := ?_) rfl (by kernel_rfl) (by kernel_rfl) (by kernel_rfl) (fun _ _ _ h => h) (Or.inl ⟨by rfl, ?_⟩) (by assumption) ?_
    rotate_left
    · intro w2 hSw
      (try dsimp only at hSw)
      (try (obtain ⟨hs1, hs2, hs3⟩ := hSw))
      go_simp
      (try (with_reducible rfl))
    (try simp only [Act.put, List.getElem_toArray, List.getElem_cons_zero, List.getElem_cons_succ, List.setIfInBounds_toArray, List.set_cons_zero, List.set_cons_succ])
    refine wpAnyH_ready (rs := [1, 4, 8]) (by decide +kernel) (by simp) ?_
    refine AllReadyH.cons rfl (fun K hK => ?_) (AllReadyH.cons rfl (fun K hK => ?_) (AllReadyH.cons rfl (fun K hK => ?_) (AllReadyH.nil)))
    · skip
      (try simp only [List.getElem_toArray, List.getElem_cons_zero, List.getElem_cons_succ])
      (go_simp)
      refine hK.out _ _ ?_ (fun hHeld => ?_)
      · exact trivial
      clear hK K
      (try simp only [Act.put, List.getElem_toArray, List.getElem_cons_zero, List.getElem_cons_succ, List.setIfInBounds_toArray, List.set_cons_zero, List.set_cons_succ])
      refine wpAnyH_ready (rs := [2, 4, 8]) (by decide +kernel) (by simp) ?_
      refine AllReadyH.cons rfl (fun K hK => ?_) (AllReadyH.cons rfl (fun K hK => ?_) (AllReadyH.cons rfl (fun K hK => ?_) (AllReadyH.nil)))
      · skip
        (try simp only [List.getElem_toArray, List.getElem_cons_zero, List.getElem_cons_succ])
        (go_simp; go_at_call 60; (with_reducible refine (cloneSegs _ pl _ _ (HP.out.up (by (repeat' (first | (with_reducible exact Up.refl _) | (with_reducible assumption) | (with_reducible refine Up.alloc ?_ _) | (with_reducible refine Up.drew ?_) | (with_reducible refine Up.drewN ?_ _) | (with_reducible refine Up.setCell ?_ ?_ _) | (with_reducible refine Up.call ?_ (by with_reducible assumption)) | go_size)))) (PathM.segCells_one l) (by omega)).mono ?_); rintro E wa ⟨v8, rfl, howa, hfwa, ua⟩; (obtain ⟨a8, c8, rfl⟩ := owned_val howa); have HOwa := Lib.hid howa; have HFwa := Lib.hid hfwa; have zwa := ua.size; (try simp at zwa); have HK := Lib.hid (HK.out.up ua); (obtain ⟨cc1, cc12, cc21, fr1, fr12, fr21, lb⟩ := HK.out.cells); have Uwa := Lib.hid (show Up w wa by (repeat' (first | (with_reducible exact Up.refl _) | (with_reducible assumption) | (with_reducible refine Up.alloc ?_ _) | (with_reducible refine Up.drew ?_) | (with_reducible refine Up.drewN ?_ _) | (with_reducible refine Up.setCell ?_ ?_ _) | (with_reducible refine Up.call ?_ (by with_reducible assumption)) | go_size))); clear howa hfwa; (try dsimp only))
        refine hK.out _ _ ?_ (fun hHeld => ?_)
        · exact trivial
        clear hK K
        (try simp only [Act.put, List.getElem_toArray, List.getElem_cons_zero, List.getElem_cons_succ, List.setIfInBounds_toArray, List.set_cons_zero, List.set_cons_succ])
        refine wpAnyH_ready (rs := [4, 8]) (by decide +kernel) (by simp) ?_
        refine AllReadyH.cons rfl (fun K hK => ?_) (AllReadyH.cons rfl (fun K hK => ?_) (AllReadyH.nil))
        · skip
          (try simp only [List.getElem_toArray, List.getElem_cons_zero, List.getElem_cons_succ])
          (go_simp)
          refine hK.out _ _ ?_ (fun hHeld => ?_)
          · exact trivial
          clear hK K
          (try simp only [Act.put, List.getElem_toArray, List.getElem_cons_zero, List.getElem_cons_succ, List.setIfInBounds_toArray, List.set_cons_zero, List.set_cons_succ])
          refine wpAnyH_ready (rs := [5, 8]) (by decide +kernel) (by simp) ?_
          refine AllReadyH.cons rfl (fun K hK => ?_) (AllReadyH.cons rfl (fun K hK => ?_) (AllReadyH.nil))
          · skip
            (try simp only [List.getElem_toArray, List.getElem_cons_zero, List.getElem_cons_succ])
            (go_simp; go_at_call 61; (with_reducible refine (cloneBytes _ bl _ _ (HB.out.up (by (repeat' (first | (with_reducible exact Up.refl _) | (with_reducible assumption) | (with_reducible refine Up.alloc ?_ _) | (with_reducible refine Up.drew ?_) | (with_reducible refine Up.drewN ?_ _) | (with_reducible refine Up.setCell ?_ ?_ _) | (with_reducible refine Up.call ?_ (by with_reducible assumption)) | go_size)))) (ints_oneCell _ _) (by omega)).mono ?_); rintro E wb ⟨v11, rfl, howb, hfwb, ub⟩; (obtain ⟨a11, c11, rfl⟩ := owned_val howb); have HOwb := Lib.hid howb; have HFwb := Lib.hid hfwb; have zwb := ub.size; (try simp at zwb); have HK := Lib.hid (HK.out.up ub); (obtain ⟨cc1, cc12, cc21, fr1, fr12, fr21, lb⟩ := HK.out.cells); have Uwb := Lib.hid (show Up w wb by (repeat' (first | (with_reducible exact Up.refl _) | (with_reducible assumption) | (with_reducible refine Up.alloc ?_ _) | (with_reducible refine Up.drew ?_) | (with_reducible refine Up.drewN ?_ _) | (with_reducible refine Up.setCell ?_ ?_ _) | (with_reducible refine Up.call ?_ (by with_reducible assumption)) | go_size))); clear howb hfwb; (try dsimp only))
            refine hK.out _ _ ?_ (fun hHeld => ?_)
            · exact trivial
            clear hK K
            (try simp only [Act.put, List.getElem_toArray, List.getElem_cons_zero, List.getElem_cons_succ, List.setIfInBounds_toArray, List.set_cons_zero, List.set_cons_succ])
            refine wpAnyH_ready (rs := [8]) (by decide +kernel) (by simp) ?_
            refine AllReadyH.cons rfl (fun K hK => ?_) (AllReadyH.nil)
            (try simp only [List.getElem_toArray, List.getElem_cons_zero, List.getElem_cons_succ])
            (go_simp)
            refine hK.out _ _ ?_ (fun hHeld => ?_)
            · exact trivial
            clear hK K
            (try simp only [Act.put, List.getElem_toArray, List.getElem_cons_zero, List.getElem_cons_succ, List.setIfInBounds_toArray, List.set_cons_zero, List.set_cons_succ])
            refine wpAnyH_take (i := 10) (v := ?_) rfl (by kernel_rfl) (by kernel_rfl) (by kernel_rfl) (fun _ _ _ h => h) (Or.inl ⟨by rfl, ?_⟩) (by assumption) ?_
            rotate_left
            · intro w2 hSw
              (try dsimp only at hSw)
              (try (obtain ⟨hs1, hs2, hs3⟩ := hSw))
              go_simp
              (try (with_reducible rfl))
            (try simp only [Act.put, List.getElem_toArray, List.getElem_cons_zero, List.getElem_cons_succ, List.setIfInBounds_toArray, List.set_cons_zero, List.set_cons_succ])
            refine wpAnyH_ready (rs := [9]) (by decide +kernel) (by simp) ?_
            refine AllReadyH.cons rfl (fun K hK => ?_) (AllReadyH.nil)
            (try simp only [List.getElem_toArray, List.getElem_cons_zero, List.getElem_cons_succ])
            (go_simp; go_at_call 25; (with_reducible refine (cloneInts _ dl _ _ (HD.out.up (by (repeat' (first | (with_reducible exact Up.refl _) | (with_reducible assumption) | (with_reducible refine Up.alloc ?_ _) | (with_reducible refine Up.drew ?_) | (with_reducible refine Up.drewN ?_ _) | (with_reducible refine Up.setCell ?_ ?_ _) | (with_reducible refine Up.call ?_ (by with_reducible assumption)) | go_size)))) (ints_oneCell _ _) (by omega)).mono ?_); rintro E wc ⟨v15, rfl, howc, hfwc, uc⟩; (obtain ⟨a15, c15, rfl⟩ := owned_val howc); have HOwc := Lib.hid howc; have HFwc := Lib.hid hfwc; have zwc := uc.size; (try simp at zwc); have HK := Lib.hid (HK.out.up uc); (obtain ⟨cc1, cc12, cc21, fr1, fr12, fr21, lb⟩ := HK.out.cells); have Uwc := Lib.hid (show Up w wc by (repeat' (first | (with_reducible exact Up.refl _) | (with_reducible assumption) | (with_reducible refine Up.alloc ?_ _) | (with_reducible refine Up.drew ?_) | (with_reducible refine Up.drewN ?_ _) | (with_reducible refine Up.setCell ?_ ?_ _) | (with_reducible refine Up.call ?_ (by with_reducible assumption)) | go_size))); clear howc hfwc; (try dsimp only))
            refine hK.out _ _ ?_ (fun hHeld => ?_)
            · exact trivial
            clear hK K
            (try simp only [Act.put, List.getElem_toArray, List.getElem_cons_zero, List.getElem_cons_succ, List.setIfInBounds_toArray, List.set_cons_zero, List.set_cons_succ])
            refine wpAnyH_ready (rs := [11]) (by decide +kernel) (by simp) ?_
            refine AllReadyH.cons rfl (fun K hK => ?_) (AllReadyH.nil)
            (try simp only [List.getElem_toArray, List.getElem_cons_zero, List.getElem_cons_succ])
            (go_simp)
            refine hK.out _ _ ?_ (fun hHeld => ?_)
            · exact trivial
            clear hK K
            (try simp only [Act.put, List.getElem_toArray, List.getElem_cons_zero, List.getElem_cons_succ, List.setIfInBounds_toArray, List.set_cons_zero, List.set_cons_succ])
            refine wpAnyH_take (i := 12) (v := ?_) rfl (by kernel_rfl) (by kernel_rfl) (by kernel_rfl) (fun _ _ _ h => h) (Or.inl ⟨by rfl, ?_⟩) (by assumption) ?_
            rotate_left
            · intro w2 hSw
              (try dsimp only at hSw)
              (try (obtain ⟨hs1, hs2, hs3⟩ := hSw))
              go_simp
              (try (with_reducible rfl))
            (try simp only [Act.put, List.getElem_toArray, List.getElem_cons_zero, List.getElem_cons_succ, List.setIfInBounds_toArray, List.set_cons_zero, List.set_cons_succ])
            refine wpAnyH_ready (rs := [13]) (by decide +kernel) (by simp) ?_
            refine AllReadyH.cons rfl (fun K hK => ?_) (AllReadyH.nil)
            (try simp only [List.getElem_toArray, List.getElem_cons_zero, List.getElem_cons_succ])
            (go_simp)
            refine hK.out _ _ ?_ (fun hHeld => ?_)
            · exact trivial
            clear hK K
            (try simp only [Act.put, List.getElem_toArray, List.getElem_cons_zero, List.getElem_cons_succ, List.setIfInBounds_toArray, List.set_cons_zero, List.set_cons_succ])
            refine wpAnyH_take (i := 14) (v := ?_) rfl (by kernel_rfl) (by kernel_rfl) (by kernel_rfl) (fun _ _ _ h => h) (Or.inl ⟨by rfl, ?_⟩) (by assumption) ?_
            rotate_left
            · intro w2 hSw
              (try dsimp only at hSw)
              (try (obtain ⟨hs1, hs2, hs3⟩ := hSw))
              go_simp
              (try (with_reducible rfl))
            (try simp only [Act.put, List.getElem_toArray, List.getElem_cons_zero, List.getElem_cons_succ, List.setIfInBounds_toArray, List.set_cons_zero, List.set_cons_succ])
            refine wpAnyH_take (i := 15) (v := ?_) rfl (by kernel_rfl) (by kernel_rfl) (by kernel_rfl) (fun _ _ _ h => h) (Or.inl ⟨by rfl, ?_⟩) (by assumption) ?_
            rotate_left
            · intro w2 hSw
              (try dsimp only at hSw)
              (try (obtain ⟨hs1, hs2, hs3⟩ := hSw))
              go_simp
              (try (with_reducible rfl))
            (try simp only [Act.put, List.getElem_toArray, List.getElem_cons_zero, List.getElem_cons_succ, List.setIfInBounds_toArray, List.set_cons_zero, List.set_cons_succ])
            refine wpAnyH_ready (rs := [16]) (by decide +kernel) (by simp) ?_
            refine AllReadyH.cons rfl (fun K hK => ?_) (AllReadyH.nil)
            (try simp only [List.getElem_toArray, List.getElem_cons_zero, List.getElem_cons_succ])
            (go_simp)
            refine hK.out _ _ ?_ (fun hHeld => ?_)
            · exact trivial
            clear hK K
            (try simp only [Act.put, List.getElem_toArray, List.getElem_cons_zero, List.getElem_cons_succ, List.setIfInBounds_toArray, List.set_cons_zero, List.set_cons_succ])
            refine wpAnyH_done (by kernel_rfl) ?_ _
            (try dsimp only)
            generalize hWF : World.setCell (World.setCell (World.setCell _ _ _) _ _) _ _ = wf
            have hr := HK.out.r
            have hz := HK.out.z
            have RF : Row wf w.heap.size #[.int .i64 k, .slice a8 pl c8, .int .i64 sp, .int .i64 p0, .int .i64 p1, .int .i64 p2, .int .i64 p3, .slice ca cl cc, .int .i64 wd, .int .i64 cp, .int .i64 jn, .int .i64 mt, .slice a15 dl c15, .int .i64 ph, .int .i64 fn, .int .i64 m.a, .int .i64 m.b, .int .i64 m.c, .int .i64 m.d, .int .i64 m.x, .int .i64 m.y, .slice a11 bl c11] := by rw [← hWF]; exact (by apply cast; (case h => (repeat (first | (with_reducible assumption) | (with_reducible apply Row.at; (simp; done)) | (with_reducible apply Row.alloc) | (with_reducible apply Row.drew) | (with_reducible apply Row.drewN) | (with_reducible apply Row.set) | ((with_reducible apply Row.other); (case hp => first | (simp; done) | (simp; omega) | omega))))); (case e => rfl))
            have RZ : Row wf (w.heap.size + 1) #[.int .i64 0, .slice none 0 0, .int .i64 0, .int .i64 0, .int .i64 0, .int .i64 0, .int .i64 0, .slice none 0 0, .int .i64 0, .int .i64 0, .int .i64 0, .int .i64 0, .slice none 0 0, .int .i64 0, .int .i64 0, .int .i64 0, .int .i64 0, .int .i64 0, .int .i64 0, .int .i64 0, .int .i64 0, .slice none 0 0] := by rw [← hWF]; exact (by apply cast; (case h => (repeat (first | (with_reducible assumption) | (with_reducible apply Row.at; (simp; done)) | (with_reducible apply Row.alloc) | (with_reducible apply Row.drew) | (with_reducible apply Row.drewN) | (with_reducible apply Row.set) | ((with_reducible apply Row.other); (case hp => first | (simp; done) | (simp; omega) | omega))))); (case e => rfl))
            have hcf : Chg [w.heap.size] wc wf := by rw [← hWF]; exact (((Chg.refl [w.heap.size] wc).setCell (Or.inl (by simp)) _).setCell (Or.inl (by simp)) _).setCell (Or.inl (by simp)) _
            clear hWF hHeld
            go_wp2
            go_meet
            case rel => exact Lib.hid ⟨_, _, _, _, _, _, cloned_mk HPN.out HOwa.out (fun g hg => by have h1 := HFwa.out g hg; have h2 : W0.heap.size ≤ g := h1.1; exact ⟨by omega, h1.2⟩) HOwb.out HFwb.out HOwc.out HFwc.out ub uc hcf Uwc.out (by have h3 : W0.heap.size ≤ wa.heap.size := ua.size; omega) RF RZ⟩
          · skip
            (try simp only [List.getElem_toArray, List.getElem_cons_zero, List.getElem_cons_succ])
            (go_simp)
            refine hK.out _ _ ?_ (fun hHeld => ?_)
            · exact trivial
            clear hK K
            (try simp only [Act.put, List.getElem_toArray, List.getElem_cons_zero, List.getElem_cons_succ, List.setIfInBounds_toArray, List.set_cons_zero, List.set_cons_succ])
            refine wpAnyH_take (i := 10) (v := ?_) rfl (by kernel_rfl) (by kernel_rfl) (by kernel_rfl) (fun _ _ _ h => h) (Or.inl ⟨by rfl, ?_⟩) (by assumption) ?_
            rotate_left
            · intro w2 hSw
              (try dsimp only at hSw)
              (try (obtain ⟨hs1, hs2, hs3⟩ := hSw))
              go_simp
              (try (with_reducible rfl))
            (try simp only [Act.put, List.getElem_toArray, List.getElem_cons_zero, List.getElem_cons_succ, List.setIfInBounds_toArray, List.set_cons_zero, List.set_cons_succ])
            refine wpAnyH_ready (rs := [5]) (by decide +kernel) (by simp) ?_
            refine AllReadyH.cons rfl (fun K hK => ?_) (AllReadyH.nil)
            (try simp only [List.getElem_toArray, List.getElem_cons_zero, List.getElem_cons_succ])
            (go_simp; go_at_call 61; (with_reducible refine (cloneBytes _ bl _ _ (HB.out.up (by (repeat' (first | (with_reducible exact Up.refl _) | (with_reducible assumption) | (with_reducible refine Up.alloc ?_ _) | (with_reducible refine Up.drew ?_) | (with_reducible refine Up.drewN ?_ _) | (with_reducible refine Up.setCell ?_ ?_ _) | (with_reducible refine Up.call ?_ (by with_reducible assumption)) | go_size)))) (ints_oneCell _ _) (by omega)).mono ?_); rintro E wb ⟨v11, rfl, howb, hfwb, ub⟩; (obtain ⟨a11, c11, rfl⟩ := owned_val howb); have HOwb := Lib.hid howb; have HFwb := Lib.hid hfwb; have zwb := ub.size; (try simp at zwb); have HK := Lib.hid (HK.out.up ub); (obtain ⟨cc1, cc12, cc21, fr1, fr12, fr21, lb⟩ := HK.out.cells); have Uwb := Lib.hid (show Up w wb by (repeat' (first | (with_reducible exact Up.refl _) | (with_reducible assumption) | (with_reducible refine Up.alloc ?_ _) | (with_reducible refine Up.drew ?_) | (with_reducible refine Up.drewN ?_ _) | (with_reducible refine Up.setCell ?_ ?_ _) | (with_reducible refine Up.call ?_ (by with_reducible assumption)) | go_size))); clear howb hfwb; (try dsimp only))
            refine hK.out _ _ ?_ (fun hHeld => ?_)
            · exact trivial
            clear hK K
            (try simp only [Act.put, List.getElem_toArray, List.getElem_cons_zero, List.getElem_cons_succ, List.setIfInBounds_toArray, List.set_cons_zero, List.set_cons_succ])
            refine wpAnyH_ready (rs := [9]) (by decide +kernel) (by simp) ?_
            refine AllReadyH.cons rfl (fun K hK => ?_) (AllReadyH.nil)
            (try simp only [List.getElem_toArray, List.getElem_cons_zero, List.getElem_cons_succ])
            (go_simp; go_at_call 25; (with_reducible refine (cloneInts _ dl _ _ (HD.out.up (by (repeat' (first | (with_reducible exact Up.refl _) | (with_reducible assumption) | (with_reducible refine Up.alloc ?_ _) | (with_reducible refine Up.drew ?_) | (with_reducible refine Up.drewN ?_ _) | (with_reducible refine Up.setCell ?_ ?_ _) | (with_reducible refine Up.call ?_ (by with_reducible assumption)) | go_size)))) (ints_oneCell _ _) (by omega)).mono ?_); rintro E wc ⟨v15, rfl, howc, hfwc, uc⟩; (obtain ⟨a15, c15, rfl⟩ := owned_val howc); have HOwc := Lib.hid howc; have HFwc := Lib.hid hfwc; have zwc := uc.size; (try simp at zwc); have HK := Lib.hid (HK.out.up uc); (obtain ⟨cc1, cc12, cc21, fr1, fr12, fr21, lb⟩ := HK.out.cells); have Uwc := Lib.hid (show Up w wc by (repeat' (first | (with_reducible exact Up.refl _) | (with_reducible assumption) | (with_reducible refine Up.alloc ?_ _) | (with_reducible refine Up.drew ?_) | (with_reducible refine Up.drewN ?_ _) | (with_reducible refine Up.setCell ?_ ?_ _) | (with_reducible refine Up.call ?_ (by with_reducible assumption)) | go_size))); clear howc hfwc; (try dsimp only))
            refine hK.out _ _ ?_ (fun hHeld => ?_)
            · exact trivial
            clear hK K
            (try simp only [Act.put, List.getElem_toArray, List.getElem_cons_zero, List.getElem_cons_succ, List.setIfInBounds_toArray, List.set_cons_zero, List.set_cons_succ])
            refine wpAnyH_ready (rs := [11]) (by decide +kernel) (by simp) ?_
            refine AllReadyH.cons rfl (fun K hK => ?_) (AllReadyH.nil)
            (try simp only [List.getElem_toArray, List.getElem_cons_zero, List.getElem_cons_succ])
            (go_simp)
            refine hK.out _ _ ?_ (fun hHeld => ?_)
            · exact trivial
            clear hK K
            (try simp only [Act.put, List.getElem_toArray, List.getElem_cons_zero, List.getElem_cons_succ, List.setIfInBounds_toArray, List.set_cons_zero, List.set_cons_succ])
            refine wpAnyH_take (i := 12) (v := ?_) rfl (by kernel_rfl) (by kernel_rfl) (by kernel_rfl) (fun _ _ _ h => h) (Or.inl ⟨by rfl, ?_⟩) (by assumption) ?_
            rotate_left
            · intro w2 hSw
              (try dsimp only at hSw)
              (try (obtain ⟨hs1, hs2, hs3⟩ := hSw))
              go_simp
              (try (with_reducible rfl))
            (try simp only [Act.put, List.getElem_toArray, List.getElem_cons_zero, List.getElem_cons_succ, List.setIfInBounds_toArray, List.set_cons_zero, List.set_cons_succ])
            refine wpAnyH_ready (rs := [13]) (by decide +kernel) (by simp) ?_
            refine AllReadyH.cons rfl (fun K hK => ?_) (AllReadyH.nil)
            (try simp only [List.getElem_toArray, List.getElem_cons_zero, List.getElem_cons_succ])
            (go_simp)
            refine hK.out _ _ ?_ (fun hHeld => ?_)
            · exact trivial
            clear hK K
            (try simp only [Act.put, List.getElem_toArray, List.getElem_cons_zero, List.getElem_cons_succ, List.setIfInBounds_toArray, List.set_cons_zero, List.set_cons_succ])
            refine wpAnyH_take (i := 14) (v := ?_) rfl (by kernel_rfl) (by kernel_rfl) (by kernel_rfl) (fun _ _ _ h => h) (Or.inl ⟨by rfl, ?_⟩) (by assumption) ?_
            rotate_left
            · intro w2 hSw
              (try dsimp only at hSw)
              (try (obtain ⟨hs1, hs2, hs3⟩ := hSw))
              go_simp
              (try (with_reducible rfl))
            (try simp only [Act.put, List.getElem_toArray, List.getElem_cons_zero, List.getElem_cons_succ, List.setIfInBounds_toArray, List.set_cons_zero, List.set_cons_succ])
            refine wpAnyH_take (i := 15) (v := ?_) rfl (by kernel_rfl) (by kernel_rfl) (by kernel_rfl) (fun _ _ _ h => h) (Or.inl ⟨by rfl, ?_⟩) (by assumption) ?_
            rotate_left
            · intro w2 hSw
              (try dsimp only at hSw)
              (try (obtain ⟨hs1, hs2, hs3⟩ := hSw))
              go_simp
              (try (with_reducible rfl))
            (try simp only [Act.put, List.getElem_toArray, List.getElem_cons_zero, List.getElem_cons_succ, List.setIfInBounds_toArray, List.set_cons_zero, List.set_cons_succ])
            refine wpAnyH_ready (rs := [16]) (by decide +kernel) (by simp) ?_
            refine AllReadyH.cons rfl (fun K hK => ?_) (AllReadyH.nil)
            (try simp only [List.getElem_toArray, List.getElem_cons_zero, List.getElem_cons_succ])
            (go_simp)
            refine hK.out _ _ ?_ (fun hHeld => ?_)
            · exact trivial
            clear hK K
            (try simp only [Act.put, List.getElem_toArray, List.getElem_cons_zero, List.getElem_cons_succ, List.setIfInBounds_toArray, List.set_cons_zero, List.set_cons_succ])
            refine wpAnyH_done (by kernel_rfl) ?_ _
            (try dsimp only)
            generalize hWF : World.setCell (World.setCell (World.setCell _ _ _) _ _) _ _ = wf
            have hr := HK.out.r
            have hz := HK.out.z
            have RF : Row wf w.heap.size #[.int .i64 k, .slice a8 pl c8, .int .i64 sp, .int .i64 p0, .int .i64 p1, .int .i64 p2, .int .i64 p3, .slice ca cl cc, .int .i64 wd, .int .i64 cp, .int .i64 jn, .int .i64 mt, .slice a15 dl c15, .int .i64 ph, .int .i64 fn, .int .i64 m.a, .int .i64 m.b, .int .i64 m.c, .int .i64 m.d, .int .i64 m.x, .int .i64 m.y, .slice a11 bl c11] := by rw [← hWF]; exact (by apply cast; (case h => (repeat (first | (with_reducible assumption) | (with_reducible apply Row.at; (simp; done)) | (with_reducible apply Row.alloc) | (with_reducible apply Row.drew) | (with_reducible apply Row.drewN) | (with_reducible apply Row.set) | ((with_reducible apply Row.other); (case hp => first | (simp; done) | (simp; omega) | omega))))); (case e => rfl))
            have RZ : Row wf (w.heap.size + 1) #[.int .i64 0, .slice none 0 0, .int .i64 0, .int .i64 0, .int .i64 0, .int .i64 0, .int .i64 0, .slice none 0 0, .int .i64 0, .int .i64 0, .int .i64 0, .int .i64 0, .slice none 0 0, .int .i64 0, .int .i64 0, .int .i64 0, .int .i64 0, .int .i64 0, .int .i64 0, .int .i64 0, .int .i64 0, .slice none 0 0] := by rw [← hWF]; exact (by apply cast; (case h => (repeat (first | (with_reducible assumption) | (with_reducible apply Row.at; (simp; done)) | (with_reducible apply Row.alloc) | (with_reducible apply Row.drew) | (with_reducible apply Row.drewN) | (with_reducible apply Row.set) | ((with_reducible apply Row.other); (case hp => first | (simp; done) | (simp; omega) | omega))))); (case e => rfl))
            have hcf : Chg [w.heap.size] wc wf := by rw [← hWF]; exact (((Chg.refl [w.heap.size] wc).setCell (Or.inl (by simp)) _).setCell (Or.inl (by simp)) _).setCell (Or.inl (by simp)) _
            clear hWF hHeld
            go_wp2
            go_meet
            case rel => exact Lib.hid ⟨_, _, _, _, _, _, cloned_mk HPN.out HOwa.out (fun g hg => by have h1 := HFwa.out g hg; have h2 : W0.heap.size ≤ g := h1.1; exact ⟨by omega, h1.2⟩) HOwb.out HFwb.out HOwc.out HFwc.out ub uc hcf Uwc.out (by have h3 : W0.heap.size ≤ wa.heap.size := ua.size; omega) RF RZ⟩
        · skip
          (try simp only [List.getElem_toArray, List.getElem_cons_zero, List.getElem_cons_succ])
          (go_simp)
          refine hK.out _ _ ?_ (fun hHeld => ?_)
          · exact trivial
          clear hK K
          (try simp only [Act.put, List.getElem_toArray, List.getElem_cons_zero, List.getElem_cons_succ, List.setIfInBounds_toArray, List.set_cons_zero, List.set_cons_succ])
          refine wpAnyH_ready (rs := [4]) (by decide +kernel) (by simp) ?_
          refine AllReadyH.cons rfl (fun K hK => ?_) (AllReadyH.nil)
          (try simp only [List.getElem_toArray, List.getElem_cons_zero, List.getElem_cons_succ])
          (go_simp)
          refine hK.out _ _ ?_ (fun hHeld => ?_)
          · exact trivial
          clear hK K
          (try simp only [Act.put, List.getElem_toArray, List.getElem_cons_zero, List.getElem_cons_succ, List.setIfInBounds_toArray, List.set_cons_zero, List.set_cons_succ])
          refine wpAnyH_take (i := 10) (v := ?_) rfl (by kernel_rfl) (by kernel_rfl) (by kernel_rfl) (fun _ _ _ h => h) (Or.inl ⟨by rfl, ?_⟩) (by assumption) ?_
          rotate_left
          · intro w2 hSw
            (try dsimp only at hSw)
            (try (obtain ⟨hs1, hs2, hs3⟩ := hSw))
            go_simp
            (try (with_reducible rfl))
          (try simp only [Act.put, List.getElem_toArray, List.getElem_cons_zero, List.getElem_cons_succ, List.setIfInBounds_toArray, List.set_cons_zero, List.set_cons_succ])
          refine wpAnyH_ready (rs := [5]) (by decide +kernel) (by simp) ?_
          refine AllReadyH.cons rfl (fun K hK => ?_) (AllReadyH.nil)
          (try simp only [List.getElem_toArray, List.getElem_cons_zero, List.getElem_cons_succ])
          (go_simp; go_at_call 61; (with_reducible refine (cloneBytes _ bl _ _ (HB.out.up (by (repeat' (first | (with_reducible exact Up.refl _) | (with_reducible assumption) | (with_reducible refine Up.alloc ?_ _) | (with_reducible refine Up.drew ?_) | (with_reducible refine Up.drewN ?_ _) | (with_reducible refine Up.setCell ?_ ?_ _) | (with_reducible refine Up.call ?_ (by with_reducible assumption)) | go_size)))) (ints_oneCell _ _) (by omega)).mono ?_); rintro E wb ⟨v11, rfl, howb, hfwb, ub⟩; (obtain ⟨a11, c11, rfl⟩ := owned_val howb); have HOwb := Lib.hid howb; have HFwb := Lib.hid hfwb; have zwb := ub.size; (try simp at zwb); have HK := Lib.hid (HK.out.up ub); (obtain ⟨cc1, cc12, cc21, fr1, fr12, fr21, lb⟩ := HK.out.cells); have Uwb := Lib.hid (show Up w wb by (repeat' (first | (with_reducible exact Up.refl _) | (with_reducible assumption) | (with_reducible refine Up.alloc ?_ _) | (with_reducible refine Up.drew ?_) | (with_reducible refine Up.drewN ?_ _) | (with_reducible refine Up.setCell ?_ ?_ _) | (with_reducible refine Up.call ?_ (by with_reducible assumption)) | go_size))); clear howb hfwb; (try dsimp only))
          refine hK.out _ _ ?_ (fun hHeld => ?_)
          · exact trivial
          clear hK K
          (try simp only [Act.put, List.getElem_toArray, List.getElem_cons_zero, List.getElem_cons_succ, List.setIfInBounds_toArray, List.set_cons_zero, List.set_cons_succ])
          refine wpAnyH_ready (rs := [9]) (by decide +kernel) (by simp) ?_
          refine AllReadyH.cons rfl (fun K hK => ?_) (AllReadyH.nil)
          (try simp only [List.getElem_toArray, List.getElem_cons_zero, List.getElem_cons_succ])
          (go_simp; go_at_call 25; (with_reducible refine (cloneInts _ dl _ _ (HD.out.up (by (repeat' (first | (with_reducible exact Up.refl _) | (with_reducible assumption) | (with_reducible refine Up.alloc ?_ _) | (with_reducible refine Up.drew ?_) | (with_reducible refine Up.drewN ?_ _) | (with_reducible refine Up.setCell ?_ ?_ _) | (with_reducible refine Up.call ?_ (by with_reducible assumption)) | go_size)))) (ints_oneCell _ _) (by omega)).mono ?_); rintro E wc ⟨v15, rfl, howc, hfwc, uc⟩; (obtain ⟨a15, c15, rfl⟩ := owned_val howc); have HOwc := Lib.hid howc; have HFwc := Lib.hid hfwc; have zwc := uc.size; (try simp at zwc); have HK := Lib.hid (HK.out.up uc); (obtain ⟨cc1, cc12, cc21, fr1, fr12, fr21, lb⟩ := HK.out.cells); have Uwc := Lib.hid (show Up w wc by (repeat' (first | (with_reducible exact Up.refl _) | (with_reducible assumption) | (with_reducible refine Up.alloc ?_ _) | (with_reducible refine Up.drew ?_) | (with_reducible refine Up.drewN ?_ _) | (with_reducible refine Up.setCell ?_ ?_ _) | (with_reducible refine Up.call ?_ (by with_reducible assumption)) | go_size))); clear howc hfwc; (try dsimp only))
          refine hK.out _ _ ?_ (fun hHeld => ?_)
          · exact trivial
          clear hK K
          (try simp only [Act.put, List.getElem_toArray, List.getElem_cons_zero, List.getElem_cons_succ, List.setIfInBounds_toArray, List.set_cons_zero, List.set_cons_succ])
          refine wpAnyH_ready (rs := [11]) (by decide +kernel) (by simp) ?_
          refine AllReadyH.cons rfl (fun K hK => ?_) (AllReadyH.nil)
          (try simp only [List.getElem_toArray, List.getElem_cons_zero, List.getElem_cons_succ])
          (go_simp)
          refine hK.out _ _ ?_ (fun hHeld => ?_)
          · exact trivial
          clear hK K
          (try simp only [Act.put, List.getElem_toArray, List.getElem_cons_zero, List.getElem_cons_succ, List.setIfInBounds_toArray, List.set_cons_zero, List.set_cons_succ])
          refine wpAnyH_take (i := 12) (v := ?_) rfl (by kernel_rfl) (by kernel_rfl) (by kernel_rfl) (fun _ _ _ h => h) (Or.inl ⟨by rfl, ?_⟩) (by assumption) ?_
          rotate_left
          · intro w2 hSw
            (try dsimp only at hSw)
            (try (obtain ⟨hs1, hs2, hs3⟩ := hSw))
            go_simp
            (try (with_reducible rfl))
          (try simp only [Act.put, List.getElem_toArray, List.getElem_cons_zero, List.getElem_cons_succ, List.setIfInBounds_toArray, List.set_cons_zero, List.set_cons_succ])
          refine wpAnyH_ready (rs := [13]) (by decide +kernel) (by simp) ?_
          refine AllReadyH.cons rfl (fun K hK => ?_) (AllReadyH.nil)
          (try simp only [List.getElem_toArray, List.getElem_cons_zero, List.getElem_cons_succ])
          (go_simp)
          refine hK.out _ _ ?_ (fun hHeld => ?_)
          · exact trivial
          clear hK K
          (try simp only [Act.put, List.getElem_toArray, List.getElem_cons_zero, List.getElem_cons_succ, List.setIfInBounds_toArray, List.set_cons_zero, List.set_cons_succ])
          refine wpAnyH_take (i := 14) (v := ?_) rfl (by kernel_rfl) (by kernel_rfl) (by kernel_rfl) (fun _ _ _ h => h) (Or.inl ⟨by rfl, ?_⟩) (by assumption) ?_
          rotate_left
          · intro w2 hSw
            (try dsimp only at hSw)
            (try (obtain ⟨hs1, hs2, hs3⟩ := hSw))
            go_simp
            (try (with_reducible rfl))
          (try simp only [Act.put, List.getElem_toArray, List.getElem_cons_zero, List.getElem_cons_succ, List.setIfInBounds_toArray, List.set_cons_zero, List.set_cons_succ])
          refine wpAnyH_take (i := 15) (v := ?_) rfl (by kernel_rfl) (by kernel_rfl) (by kernel_rfl) (fun _ _ _ h => h) (Or.inl ⟨by rfl, ?_⟩) (by assumption) ?_
          rotate_left
          · intro w2 hSw
            (try dsimp only at hSw)
            (try (obtain ⟨hs1, hs2, hs3⟩ := hSw))
            go_simp
            (try (with_reducible rfl))
          (try simp only [Act.put, List.getElem_toArray, List.getElem_cons_zero, List.getElem_cons_succ, List.setIfInBounds_toArray, List.set_cons_zero, List.set_cons_succ])
          refine wpAnyH_ready (rs := [16]) (by decide +kernel) (by simp) ?_
          refine AllReadyH.cons rfl (fun K hK => ?_) (AllReadyH.nil)
          (try simp only [List.getElem_toArray, List.getElem_cons_zero, List.getElem_cons_succ])
          (go_simp)
          refine hK.out _ _ ?_ (fun hHeld => ?_)
          · exact trivial
          clear hK K
          (try simp only [Act.put, List.getElem_toArray, List.getElem_cons_zero, List.getElem_cons_succ, List.setIfInBounds_toArray, List.set_cons_zero, List.set_cons_succ])
          refine wpAnyH_done (by kernel_rfl) ?_ _
          (try dsimp only)
          generalize hWF : World.setCell (World.setCell (World.setCell _ _ _) _ _) _ _ = wf
          have hr := HK.out.r
          have hz := HK.out.z
          have RF : Row wf w.heap.size #[.int .i64 k, .slice a8 pl c8, .int .i64 sp, .int .i64 p0, .int .i64 p1, .int .i64 p2, .int .i64 p3, .slice ca cl cc, .int .i64 wd, .int .i64 cp, .int .i64 jn, .int .i64 mt, .slice a15 dl c15, .int .i64 ph, .int .i64 fn, .int .i64 m.a, .int .i64 m.b, .int .i64 m.c, .int .i64 m.d, .int .i64 m.x, .int .i64 m.y, .slice a11 bl c11] := by rw [← hWF]; exact (by apply cast; (case h => (repeat (first | (with_reducible assumption) | (with_reducible apply Row.at; (simp; done)) | (with_reducible apply Row.alloc) | (with_reducible apply Row.drew) | (with_reducible apply Row.drewN) | (with_reducible apply Row.set) | ((with_reducible apply Row.other); (case hp => first | (simp; done) | (simp; omega) | omega))))); (case e => rfl))
          have RZ : Row wf (w.heap.size + 1) #[.int .i64 0, .slice none 0 0, .int .i64 0, .int .i64 0, .int .i64 0, .int .i64 0, .int .i64 0, .slice none 0 0, .int .i64 0, .int .i64 0, .int .i64 0, .int .i64 0, .slice none 0 0, .int .i64 0, .int .i64 0, .int .i64 0, .int .i64 0, .int .i64 0, .int .i64 0, .int .i64 0, .int .i64 0, .slice none 0 0] := by rw [← hWF]; exact (by apply cast; (case h => (repeat (first | (with_reducible assumption) | (with_reducible apply Row.at; (simp; done)) | (with_reducible apply Row.alloc) | (with_reducible apply Row.drew) | (with_reducible apply Row.drewN) | (with_reducible apply Row.set) | ((with_reducible apply Row.other); (case hp => first | (simp; done) | (simp; omega) | omega))))); (case e => rfl))
          have hcf : Chg [w.heap.size] wc wf := by rw [← hWF]; exact (((Chg.refl [w.heap.size] wc).setCell (Or.inl (by simp)) _).setCell (Or.inl (by simp)) _).setCell (Or.inl (by simp)) _
          clear hWF hHeld
          go_wp2
          go_meet
          case rel => exact Lib.hid ⟨_, _, _, _, _, _, cloned_mk HPN.out HOwa.out (fun g hg => by have h1 := HFwa.out g hg; have h2 : W0.heap.size ≤ g := h1.1; exact ⟨by omega, h1.2⟩) HOwb.out HFwb.out HOwc.out HFwc.out ub uc hcf Uwc.out (by have h3 : W0.heap.size ≤ wa.heap.size := ua.size; omega) RF RZ⟩
      · skip
        (try simp only [List.getElem_toArray, List.getElem_cons_zero, List.getElem_cons_succ])
        (go_simp)
        refine hK.out _ _ ?_ (fun hHeld => ?_)
        · exact trivial
        clear hK K
        (try simp only [Act.put, List.getElem_toArray, List.getElem_cons_zero, List.getElem_cons_succ, List.setIfInBounds_toArray, List.set_cons_zero, List.set_cons_succ])
        refine wpAnyH_ready (rs := [2, 8]) (by decide +kernel) (by simp) ?_
        refine AllReadyH.cons rfl (fun K hK => ?_) (AllReadyH.cons rfl (fun K hK => ?_) (AllReadyH.nil))
        · skip
          (try simp only [List.getElem_toArray, List.getElem_cons_zero, List.getElem_cons_succ])
          (go_simp; go_at_call 60; (with_reducible refine (cloneSegs _ pl _ _ (HP.out.up (by (repeat' (first | (with_reducible exact Up.refl _) | (with_reducible assumption) | (with_reducible refine Up.alloc ?_ _) | (with_reducible refine Up.drew ?_) | (with_reducible refine Up.drewN ?_ _) | (with_reducible refine Up.setCell ?_ ?_ _) | (with_reducible refine Up.call ?_ (by with_reducible assumption)) | go_size)))) (PathM.segCells_one l) (by omega)).mono ?_); rintro E wa ⟨v8, rfl, howa, hfwa, ua⟩; (obtain ⟨a8, c8, rfl⟩ := owned_val howa); have HOwa := Lib.hid howa; have HFwa := Lib.hid hfwa; have zwa := ua.size; (try simp at zwa); have HK := Lib.hid (HK.out.up ua); (obtain ⟨cc1, cc12, cc21, fr1, fr12, fr21, lb⟩ := HK.out.cells); have Uwa := Lib.hid (show Up w wa by (repeat' (first | (with_reducible exact Up.refl _) | (with_reducible assumption) | (with_reducible refine Up.alloc ?_ _) | (with_reducible refine Up.drew ?_) | (with_reducible refine Up.drewN ?_ _) | (with_reducible refine Up.setCell ?_ ?_ _) | (with_reducible refine Up.call ?_ (by with_reducible assumption)) | go_size))); clear howa hfwa; (try dsimp only))
          refine hK.out _ _ ?_ (fun hHeld => ?_)
          · exact trivial
          clear hK K
          (try simp only [Act.put, List.getElem_toArray, List.getElem_cons_zero, List.getElem_cons_succ, List.setIfInBounds_toArray, List.set_cons_zero, List.set_cons_succ])
          refine wpAnyH_ready (rs := [5, 8]) (by decide +kernel) (by simp) ?_
          refine AllReadyH.cons rfl (fun K hK => ?_) (AllReadyH.cons rfl (fun K hK => ?_) (AllReadyH.nil))
          · skip
            (try simp only [List.getElem_toArray, List.getElem_cons_zero, List.getElem_cons_succ])
            (go_simp; go_at_call 61; (with_reducible refine (cloneBytes _ bl _ _ (HB.out.up (by (repeat' (first | (with_reducible exact Up.refl _) | (with_reducible assumption) | (with_reducible refine Up.alloc ?_ _) | (with_reducible refine Up.drew ?_) | (with_reducible refine Up.drewN ?_ _) | (with_reducible refine Up.setCell ?_ ?_ _) | (with_reducible refine Up.call ?_ (by with_reducible assumption)) | go_size)))) (ints_oneCell _ _) (by omega)).mono ?_); rintro E wb ⟨v11, rfl, howb, hfwb, ub⟩; (obtain ⟨a11, c11, rfl⟩ := owned_val howb); have HOwb := Lib.hid howb; have HFwb := Lib.hid hfwb; have zwb := ub.size; (try simp at zwb); have HK := Lib.hid (HK.out.up ub); (obtain ⟨cc1, cc12, cc21, fr1, fr12, fr21, lb⟩ := HK.out.cells); have Uwb := Lib.hid (show Up w wb by (repeat' (first | (with_reducible exact Up.refl _) | (with_reducible assumption) | (with_reducible refine Up.alloc ?_ _) | (with_reducible refine Up.drew ?_) | (with_reducible refine Up.drewN ?_ _) | (with_reducible refine Up.setCell ?_ ?_ _) | (with_reducible refine Up.call ?_ (by with_reducible assumption)) | go_size))); clear howb hfwb; (try dsimp only))
            refine hK.out _ _ ?_ (fun hHeld => ?_)
            · exact trivial
            clear hK K
            (try simp only [Act.put, List.getElem_toArray, List.getElem_cons_zero, List.getElem_cons_succ, List.setIfInBounds_toArray, List.set_cons_zero, List.set_cons_succ])
            refine wpAnyH_ready (rs := [8]) (by decide +kernel) (by simp) ?_
            refine AllReadyH.cons rfl (fun K hK => ?_) (AllReadyH.nil)
            (try simp only [List.getElem_toArray, List.getElem_cons_zero, List.getElem_cons_succ])
            (go_simp)
            refine hK.out _ _ ?_ (fun hHeld => ?_)
            · exact trivial
            clear hK K
            (try simp only [Act.put, List.getElem_toArray, List.getElem_cons_zero, List.getElem_cons_succ, List.setIfInBounds_toArray, List.set_cons_zero, List.set_cons_succ])
            refine wpAnyH_take (i := 10) (v := ?_) rfl (by kernel_rfl) (by kernel_rfl) (by kernel_rfl) (fun _ _ _ h => h) (Or.inl ⟨by rfl, ?_⟩) (by assumption) ?_
            rotate_left
            · intro w2 hSw
              (try dsimp only at hSw)
              (try (obtain ⟨hs1, hs2, hs3⟩ := hSw))
              go_simp
              (try (with_reducible rfl))
            (try simp only [Act.put, List.getElem_toArray, List.getElem_cons_zero, List.getElem_cons_succ, List.setIfInBounds_toArray, List.set_cons_zero, List.set_cons_succ])
            refine wpAnyH_ready (rs := [9]) (by decide +kernel) (by simp) ?_
            refine AllReadyH.cons rfl (fun K hK => ?_) (AllReadyH.nil)
            (try simp only [List.getElem_toArray, List.getElem_cons_zero, List.getElem_cons_succ])
            (go_simp; go_at_call 25; (with_reducible refine (cloneInts _ dl _ _ (HD.out.up (by (repeat' (first | (with_reducible exact Up.refl _) | (with_reducible assumption) | (with_reducible refine Up.alloc ?_ _) | (with_reducible refine Up.drew ?_) | (with_reducible refine Up.drewN ?_ _) | (with_reducible refine Up.setCell ?_ ?_ _) | (with_reducible refine Up.call ?_ (by with_reducible assumption)) | go_size)))) (ints_oneCell _ _) (by omega)).mono ?_); rintro E wc ⟨v15, rfl, howc, hfwc, uc⟩; (obtain ⟨a15, c15, rfl⟩ := owned_val howc); have HOwc := Lib.hid howc; have HFwc := Lib.hid hfwc; have zwc := uc.size; (try simp at zwc); have HK := Lib.hid (HK.out.up uc); (obtain ⟨cc1, cc12, cc21, fr1, fr12, fr21, lb⟩ := HK.out.cells); have Uwc := Lib.hid (show Up w wc by (repeat' (first | (with_reducible exact Up.refl _) | (with_reducible assumption) | (with_reducible refine Up.alloc ?_ _) | (with_reducible refine Up.drew ?_) | (with_reducible refine Up.drewN ?_ _) | (with_reducible refine Up.setCell ?_ ?_ _) | (with_reducible refine Up.call ?_ (by with_reducible assumption)) | go_size))); clear howc hfwc; (try dsimp only))
            refine hK.out _ _ ?_ (fun hHeld => ?_)
            · exact trivial
            clear hK K
            (try simp only [Act.put, List.getElem_toArray, List.getElem_cons_zero, List.getElem_cons_succ, List.setIfInBounds_toArray, List.set_cons_zero, List.set_cons_succ])
            refine wpAnyH_ready (rs := [11]) (by decide +kernel) (by simp) ?_
            refine AllReadyH.cons rfl (fun K hK => ?_) (AllReadyH.nil)
            (try simp only [List.getElem_toArray, List.getElem_cons_zero, List.getElem_cons_succ])
            (go_simp)
            refine hK.out _ _ ?_ (fun hHeld => ?_)
            · exact trivial
            clear hK K
            (try simp only [Act.put, List.getElem_toArray, List.getElem_cons_zero, List.getElem_cons_succ, List.setIfInBounds_toArray, List.set_cons_zero, List.set_cons_succ])
            refine wpAnyH_take (i := 12) (v := ?_) rfl (by kernel_rfl) (by kernel_rfl) (by kernel_rfl) (fun _ _ _ h => h) (Or.inl ⟨by rfl, ?_⟩) (by assumption) ?_
            rotate_left
            · intro w2 hSw
              (try dsimp only at hSw)
              (try (obtain ⟨hs1, hs2, hs3⟩ := hSw))
              go_simp
              (try (with_reducible rfl))
            (try simp only [Act.put, List.getElem_toArray, List.getElem_cons_zero, List.getElem_cons_succ, List.setIfInBounds_toArray, List.set_cons_zero, List.set_cons_succ])
            refine wpAnyH_ready (rs := [13]) (by decide +kernel) (by simp) ?_
            refine AllReadyH.cons rfl (fun K hK => ?_) (AllReadyH.nil)
            (try simp only [List.getElem_toArray, List.getElem_cons_zero, List.getElem_cons_succ])
            (go_simp)
            refine hK.out _ _ ?_ (fun hHeld => ?_)
            · exact trivial
            clear hK K
            (try simp only [Act.put, List.getElem_toArray, List.getElem_cons_zero, List.getElem_cons_succ, List.setIfInBounds_toArray, List.set_cons_zero, List.set_cons_succ])
            refine wpAnyH_take (i := 14) (v := ?_) rfl (by kernel_rfl) (by kernel_rfl) (by kernel_rfl) (fun _ _ _ h => h) (Or.inl ⟨by rfl, ?_⟩) (by assumption) ?_
            rotate_left
            · intro w2 hSw
              (try dsimp only at hSw)
              (try (obtain ⟨hs1, hs2, hs3⟩ := hSw))
              go_simp
              (try (with_reducible rfl))
            (try simp only [Act.put, List.getElem_toArray, List.getElem_cons_zero, List.getElem_cons_succ, List.setIfInBounds_toArray, List.set_cons_zero, List.set_cons_succ])
            refine wpAnyH_take (i := 15) (v := ?_) rfl (by kernel_rfl) (by kernel_rfl) (by kernel_rfl) (fun _ _ _ h => h) (Or.inl ⟨by rfl, ?_⟩) (by assumption) ?_
            rotate_left
            · intro w2 hSw
              (try dsimp only at hSw)
              (try (obtain ⟨hs1, hs2, hs3⟩ := hSw))
              go_simp
              (try (with_reducible rfl))
            (try simp only [Act.put, List.getElem_toArray, List.getElem_cons_zero, List.getElem_cons_succ, List.setIfInBounds_toArray, List.set_cons_zero, List.set_cons_succ])
            refine wpAnyH_ready (rs := [16]) (by decide +kernel) (by simp) ?_
            refine AllReadyH.cons rfl (fun K hK => ?_) (AllReadyH.nil)
            (try simp only [List.getElem_toArray, List.getElem_cons_zero, List.getElem_cons_succ])
            (go_simp)
            refine hK.out _ _ ?_ (fun hHeld => ?_)
            · exact trivial
            clear hK K
            (try simp only [Act.put, List.getElem_toArray, List.getElem_cons_zero, List.getElem_cons_succ, List.setIfInBounds_toArray, List.set_cons_zero, List.set_cons_succ])
            refine wpAnyH_done (by kernel_rfl) ?_ _
            (try dsimp only)
            generalize hWF : World.setCell (World.setCell (World.setCell _ _ _) _ _) _ _ = wf
            have hr := HK.out.r
            have hz := HK.out.z
            have RF : Row wf w.heap.size #[.int .i64 k, .slice a8 pl c8, .int .i64 sp, .int .i64 p0, .int .i64 p1, .int .i64 p2, .int .i64 p3, .slice ca cl cc, .int .i64 wd, .int .i64 cp, .int .i64 jn, .int .i64 mt, .slice a15 dl c15, .int .i64 ph, .int .i64 fn, .int .i64 m.a, .int .i64 m.b, .int .i64 m.c, .int .i64 m.d, .int .i64 m.x, .int .i64 m.y, .slice a11 bl c11] := by rw [← hWF]; exact (by apply cast; (case h => (repeat (first | (with_reducible assumption) | (with_reducible apply Row.at; (simp; done)) | (with_reducible apply Row.alloc) | (with_reducible apply Row.drew) | (with_reducible apply Row.drewN) | (with_reducible apply Row.set) | ((with_reducible apply Row.other); (case hp => first | (simp; done) | (simp; omega) | omega))))); (case e => rfl))
            have RZ : Row wf (w.heap.size + 1) #[.int .i64 0, .slice none 0 0, .int .i64 0, .int .i64 0, .int .i64 0, .int .i64 0, .int .i64 0, .slice none 0 0, .int .i64 0, .int .i64 0, .int .i64 0, .int .i64 0, .slice none 0 0, .int .i64 0, .int .i64 0, .int .i64 0, .int .i64 0, .int .i64 0, .int .i64 0, .int .i64 0, .int .i64 0, .slice none 0 0] := by rw [← hWF]; exact (by apply cast; (case h => (repeat (first | (with_reducible assumption) | (with_reducible apply Row.at; (simp; done)) | (with_reducible apply Row.alloc) | (with_reducible apply Row.drew) | (with_reducible apply Row.drewN) | (with_reducible apply Row.set) | ((with_reducible apply Row.other); (case hp => first | (simp; done) | (simp; omega) | omega))))); (case e => rfl))
            have hcf : Chg [w.heap.size] wc wf := by rw [← hWF]; exact (((Chg.refl [w.heap.size] wc).setCell (Or.inl (by simp)) _).setCell (Or.inl (by simp)) _).setCell (Or.inl (by simp)) _
            clear hWF hHeld
            go_wp2
            go_meet
            case rel => exact Lib.hid ⟨_, _, _, _, _, _, cloned_mk HPN.out HOwa.out (fun g hg => by have h1 := HFwa.out g hg; have h2 : W0.heap.size ≤ g := h1.1; exact ⟨by omega, h1.2⟩) HOwb.out HFwb.out HOwc.out HFwc.out ub uc hcf Uwc.out (by have h3 : W0.heap.size ≤ wa.heap.size := ua.size; omega) RF RZ⟩
          · skip
            (try simp only [List.getElem_toArray, List.getElem_cons_zero, List.getElem_cons_succ])
            (go_simp)
            refine hK.out _ _ ?_ (fun hHeld => ?_)
            · exact trivial
            clear hK K
            (try simp only [Act.put, List.getElem_toArray, List.getElem_cons_zero, List.getElem_cons_succ, List.setIfInBounds_toArray, List.set_cons_zero, List.set_cons_succ])
            refine wpAnyH_take (i := 10) (v := ?_) rfl (by kernel_rfl) (by kernel_rfl) (by kernel_rfl) (fun _ _ _ h => h) (Or.inl ⟨by rfl, ?_⟩) (by assumption) ?_
            rotate_left
            · intro w2 hSw
              (try dsimp only at hSw)
              (try (obtain ⟨hs1, hs2, hs3⟩ := hSw))
              go_simp
              (try (with_reducible rfl))
            (try simp only [Act.put, List.getElem_toArray, List.getElem_cons_zero, List.getElem_cons_succ, List.setIfInBounds_toArray, List.set_cons_zero, List.set_cons_succ])
            refine wpAnyH_ready (rs := [5]) (by decide +kernel) (by simp) ?_
            refine AllReadyH.cons rfl (fun K hK => ?_) (AllReadyH.nil)
            (try simp only [List.getElem_toArray, List.getElem_cons_zero, List.getElem_cons_succ])
            (go_simp; go_at_call 61; (with_reducible refine (cloneBytes _ bl _ _ (HB.out.up (by (repeat' (first | (with_reducible exact Up.refl _) | (with_reducible assumption) | (with_reducible refine Up.alloc ?_ _) | (with_reducible refine Up.drew ?_) | (with_reducible refine Up.drewN ?_ _) | (with_reducible refine Up.setCell ?_ ?_ _) | (with_reducible refine Up.call ?_ (by with_reducible assumption)) | go_size)))) (ints_oneCell _ _) (by omega)).mono ?_); rintro E wb ⟨v11, rfl, howb, hfwb, ub⟩; (obtain ⟨a11, c11, rfl⟩ := owned_val howb); have HOwb := Lib.hid howb; have HFwb := Lib.hid hfwb; have zwb := ub.size; (try simp at zwb); have HK := Lib.hid (HK.out.up ub); (obtain ⟨cc1, cc12, cc21, fr1, fr12, fr21, lb⟩ := HK.out.cells); have Uwb := Lib.hid (show Up w wb by (repeat' (first | (with_reducible exact Up.refl _) | (with_reducible assumption) | (with_reducible refine Up.alloc ?_ _) | (with_reducible refine Up.drew ?_) | (with_reducible refine Up.drewN ?_ _) | (with_reducible refine Up.setCell ?_ ?_ _) | (with_reducible refine Up.call ?_ (by with_reducible assumption)) | go_size))); clear howb hfwb; (try dsimp only))
            refine hK.out _ _ ?_ (fun hHeld => ?_)
            · exact trivial
            clear hK K
            (try simp only [Act.put, List.getElem_toArray, List.getElem_cons_zero, List.getElem_cons_succ, List.setIfInBounds_toArray, List.set_cons_zero, List.set_cons_succ])
            refine wpAnyH_ready (rs := [9]) (by decide +kernel) (by simp) ?_
            refine AllReadyH.cons rfl (fun K hK => ?_) (AllReadyH.nil)
            (try simp only [List.getElem_toArray, List.getElem_cons_zero, List.getElem_cons_succ])
            (go_simp; go_at_call 25; (with_reducible refine (cloneInts _ dl _ _ (HD.out.up (by (repeat' (first | (with_reducible exact Up.refl _) | (with_reducible assumption) | (with_reducible refine Up.alloc ?_ _) | (with_reducible refine Up.drew ?_) | (with_reducible refine Up.drewN ?_ _) | (with_reducible refine Up.setCell ?_ ?_ _) | (with_reducible refine Up.call ?_ (by with_reducible assumption)) | go_size)))) (ints_oneCell _ _) (by omega)).mono ?_); rintro E wc ⟨v15, rfl, howc, hfwc, uc⟩; (obtain ⟨a15, c15, rfl⟩ := owned_val howc); have HOwc := Lib.hid howc; have HFwc := Lib.hid hfwc; have zwc := uc.size; (try simp at zwc); have HK := Lib.hid (HK.out.up uc); (obtain ⟨cc1, cc12, cc21, fr1, fr12, fr21, lb⟩ := HK.out.cells); have Uwc := Lib.hid (show Up w wc by (repeat' (first | (with_reducible exact Up.refl _) | (with_reducible assumption) | (with_reducible refine Up.alloc ?_ _) | (with_reducible refine Up.drew ?_) | (with_reducible refine Up.drewN ?_ _) | (with_reducible refine Up.setCell ?_ ?_ _) | (with_reducible refine Up.call ?_ (by with_reducible assumption)) | go_size))); clear howc hfwc; (try dsimp only))
            refine hK.out _ _ ?_ (fun hHeld => ?_)
            · exact trivial
            clear hK K
            (try simp only [Act.put, List.getElem_toArray, List.getElem_cons_zero, List.getElem_cons_succ, List.setIfInBounds_toArray, List.set_cons_zero, List.set_cons_succ])
            refine wpAnyH_ready (rs := [11]) (by decide +kernel) (by simp) ?_
            refine AllReadyH.cons rfl (fun K hK => ?_) (AllReadyH.nil)
            (try simp only [List.getElem_toArray, List.getElem_cons_zero, List.getElem_cons_succ])
            (go_simp)
            refine hK.out _ _ ?_ (fun hHeld => ?_)
            · exact trivial
            clear hK K
            (try simp only [Act.put, List.getElem_toArray, List.getElem_cons_zero, List.getElem_cons_succ, List.setIfInBounds_toArray, List.set_cons_zero, List.set_cons_succ])
            refine wpAnyH_take (i := 12) (v := ?_) rfl (by kernel_rfl) (by kernel_rfl) (by kernel_rfl) (fun _ _ _ h => h) (Or.inl ⟨by rfl, ?_⟩) (by assumption) ?_
            rotate_left
            · intro w2 hSw
              (try dsimp only at hSw)
              (try (obtain ⟨hs1, hs2, hs3⟩ := hSw))
              go_simp
              (try (with_reducible rfl))
            (try simp only [Act.put, List.getElem_toArray, List.getElem_cons_zero, List.getElem_cons_succ, List.setIfInBounds_toArray, List.set_cons_zero, List.set_cons_succ])
            refine wpAnyH_ready (rs := [13]) (by decide +kernel) (by simp) ?_
            refine AllReadyH.cons rfl (fun K hK => ?_) (AllReadyH.nil)
            (try simp only [List.getElem_toArray, List.getElem_cons_zero, List.getElem_cons_succ])
            (go_simp)
            refine hK.out _ _ ?_ (fun hHeld => ?_)
            · exact trivial
            clear hK K
            (try simp only [Act.put, List.getElem_toArray, List.getElem_cons_zero, List.getElem_cons_succ, List.setIfInBounds_toArray, List.set_cons_zero, List.set_cons_succ])
            refine wpAnyH_take (i := 14) (v := ?_) rfl (by kernel_rfl) (by kernel_rfl) (by kernel_rfl) (fun _ _ _ h => h) (Or.inl ⟨by rfl, ?_⟩) (by assumption) ?_
            rotate_left
            · intro w2 hSw
              (try dsimp only at hSw)
              (try (obtain ⟨hs1, hs2, hs3⟩ := hSw))
              go_simp
              (try (with_reducible rfl))
            (try simp only [Act.put, List.getElem_toArray, List.getElem_cons_zero, List.getElem_cons_succ, List.setIfInBounds_toArray, List.set_cons_zero, List.set_cons_succ])
            refine wpAnyH_take (i := 15) (v := ?_) rfl (by kernel_rfl) (by kernel_rfl) (by kernel_rfl) (fun _ _ _ h => h) (Or.inl ⟨by rfl, ?_⟩) (by assumption) ?_
            rotate_left
            · intro w2 hSw
              (try dsimp only at hSw)
              (try (obtain ⟨hs1, hs2, hs3⟩ := hSw))
              go_simp
              (try (with_reducible rfl))
            (try simp only [Act.put, List.getElem_toArray, List.getElem_cons_zero, List.getElem_cons_succ, List.setIfInBounds_toArray, List.set_cons_zero, List.set_cons_succ])
            refine wpAnyH_ready (rs := [16]) (by decide +kernel) (by simp) ?_
            refine AllReadyH.cons rfl (fun K hK => ?_) (AllReadyH.nil)
            (try simp only [List.getElem_toArray, List.getElem_cons_zero, List.getElem_cons_succ])
            (go_simp)
            refine hK.out _ _ ?_ (fun hHeld => ?_)
            · exact trivial
            clear hK K
            (try simp only [Act.put, List.getElem_toArray, List.getElem_cons_zero, List.getElem_cons_succ, List.setIfInBounds_toArray, List.set_cons_zero, List.set_cons_succ])
            refine wpAnyH_done (by kernel_rfl) ?_ _
            (try dsimp only)
            generalize hWF : World.setCell (World.setCell (World.setCell _ _ _) _ _) _ _ = wf
            have hr := HK.out.r
            have hz := HK.out.z
            have RF : Row wf w.heap.size #[.int .i64 k, .slice a8 pl c8, .int .i64 sp, .int .i64 p0, .int .i64 p1, .int .i64 p2, .int .i64 p3, .slice ca cl cc, .int .i64 wd, .int .i64 cp, .int .i64 jn, .int .i64 mt, .slice a15 dl c15, .int .i64 ph, .int .i64 fn, .int .i64 m.a, .int .i64 m.b, .int .i64 m.c, .int .i64 m.d, .int .i64 m.x, .int .i64 m.y, .slice a11 bl c11] := by rw [← hWF]; exact (by apply cast; (case h => (repeat (first | (with_reducible assumption) | (with_reducible apply Row.at; (simp; done)) | (with_reducible apply Row.alloc) | (with_reducible apply Row.drew) | (with_reducible apply Row.drewN) | (with_reducible apply Row.set) | ((with_reducible apply Row.other); (case hp => first | (simp; done) | (simp; omega) | omega))))); (case e => rfl))
            have RZ : Row wf (w.heap.size + 1) #[.int .i64 0, .slice none 0 0, .int .i64 0, .int .i64 0, .int .i64 0, .int .i64 0, .int .i64 0, .slice none 0 0, .int .i64 0, .int .i64 0, .int .i64 0, .int .i64 0, .slice none 0 0, .int .i64 0, .int .i64 0, .int .i64 0, .int .i64 0, .int .i64 0, .int .i64 0, .int .i64 0, .int .i64 0, .slice none 0 0] := by rw [← hWF]; exact (by apply cast; (case h => (repeat (first | (with_reducible assumption) | (with_reducible apply Row.at; (simp; done)) | (with_reducible apply Row.alloc) | (with_reducible apply Row.drew) | (with_reducible apply Row.drewN) | (with_reducible apply Row.set) | ((with_reducible apply Row.other); (case hp => first | (simp; done) | (simp; omega) | omega))))); (case e => rfl))
            have hcf : Chg [w.heap.size] wc wf := by rw [← hWF]; exact (((Chg.refl [w.heap.size] wc).setCell (Or.inl (by simp)) _).setCell (Or.inl (by simp)) _).setCell (Or.inl (by simp)) _
            clear hWF hHeld
            go_wp2
            go_meet
            case rel => exact Lib.hid ⟨_, _, _, _, _, _, cloned_mk HPN.out HOwa.out (fun g hg => by have h1 := HFwa.out g hg; have h2 : W0.heap.size ≤ g := h1.1; exact ⟨by omega, h1.2⟩) HOwb.out HFwb.out HOwc.out HFwc.out ub uc hcf Uwc.out (by have h3 : W0.heap.size ≤ wa.heap.size := ua.size; omega) RF RZ⟩
        · skip
          (try simp only [List.getElem_toArray, List.getElem_cons_zero, List.getElem_cons_succ])
          (go_simp)
          refine hK.out _ _ ?_ (fun hHeld => ?_)
          · exact trivial
          clear hK K
          (try simp only [Act.put, List.getElem_toArray, List.getElem_cons_zero, List.getElem_cons_succ, List.setIfInBounds_toArray, List.set_cons_zero, List.set_cons_succ])
          refine wpAnyH_ready (rs := [2]) (by decide +kernel) (by simp) ?_
          refine AllReadyH.cons rfl (fun K hK => ?_) (AllReadyH.nil)
          (try simp only [List.getElem_toArray, List.getElem_cons_zero, List.getElem_cons_succ])
          (go_simp; go_at_call 60; (with_reducible refine (cloneSegs _ pl _ _ (HP.out.up (by (repeat' (first | (with_reducible exact Up.refl _) | (with_reducible assumption) | (with_reducible refine Up.alloc ?_ _) | (with_reducible refine Up.drew ?_) | (with_reducible refine Up.drewN ?_ _) | (with_reducible refine Up.setCell ?_ ?_ _) | (with_reducible refine Up.call ?_ (by with_reducible assumption)) | go_size)))) (PathM.segCells_one l) (by omega)).mono ?_); rintro E wa ⟨v8, rfl, howa, hfwa, ua⟩; (obtain ⟨a8, c8, rfl⟩ := owned_val howa); have HOwa := Lib.hid howa; have HFwa := Lib.hid hfwa; have zwa := ua.size; (try simp at zwa); have HK := Lib.hid (HK.out.up ua); (obtain ⟨cc1, cc12, cc21, fr1, fr12, fr21, lb⟩ := HK.out.cells); have Uwa := Lib.hid (show Up w wa by (repeat' (first | (with_reducible exact Up.refl _) | (with_reducible assumption) | (with_reducible refine Up.alloc ?_ _) | (with_reducible refine Up.drew ?_) | (with_reducible refine Up.drewN ?_ _) | (with_reducible refine Up.setCell ?_ ?_ _) | (with_reducible refine Up.call ?_ (by with_reducible assumption)) | go_size))); clear howa hfwa; (try dsimp only))
          refine hK.out _ _ ?_ (fun hHeld => ?_)
          · exact trivial
          clear hK K
          (try simp only [Act.put, List.getElem_toArray, List.getElem_cons_zero, List.getElem_cons_succ, List.setIfInBounds_toArray, List.set_cons_zero, List.set_cons_succ])
          refine wpAnyH_take (i := 10) (v := ?_) rfl (by kernel_rfl) (by kernel_rfl) (by kernel_rfl) (fun _ _ _ h => h) (Or.inl ⟨by rfl, ?_⟩) (by assumption) ?_
          rotate_left
          · intro w2 hSw
            (try dsimp only at hSw)
            (try (obtain ⟨hs1, hs2, hs3⟩ := hSw))
            go_simp
            (try (with_reducible rfl))
          (try simp only [Act.put, List.getElem_toArray, List.getElem_cons_zero, List.getElem_cons_succ, List.setIfInBounds_toArray, List.set_cons_zero, List.set_cons_succ])
          refine wpAnyH_ready (rs := [5]) (by decide +kernel) (by simp) ?_
          refine AllReadyH.cons rfl (fun K hK => ?_) (AllReadyH.nil)
          (try simp only [List.getElem_toArray, List.getElem_cons_zero, List.getElem_cons_succ])
          (go_simp; go_at_call 61; (with_reducible refine (cloneBytes _ bl _ _ (HB.out.up (by (repeat' (first | (with_reducible exact Up.refl _) | (with_reducible assumption) | (with_reducible refine Up.alloc ?_ _) | (with_reducible refine Up.drew ?_) | (with_reducible refine Up.drewN ?_ _) | (with_reducible refine Up.setCell ?_ ?_ _) | (with_reducible refine Up.call ?_ (by with_reducible assumption)) | go_size)))) (ints_oneCell _ _) (by omega)).mono ?_); rintro E wb ⟨v11, rfl, howb, hfwb, ub⟩; (obtain ⟨a11, c11, rfl⟩ := owned_val howb); have HOwb := Lib.hid howb; have HFwb := Lib.hid hfwb; have zwb := ub.size; (try simp at zwb); have HK := Lib.hid (HK.out.up ub); (obtain ⟨cc1, cc12, cc21, fr1, fr12, fr21, lb⟩ := HK.out.cells); have Uwb := Lib.hid (show Up w wb by (repeat' (first | (with_reducible exact Up.refl _) | (with_reducible assumption) | (with_reducible refine Up.alloc ?_ _) | (with_reducible refine Up.drew ?_) | (with_reducible refine Up.drewN ?_ _) | (with_reducible refine Up.setCell ?_ ?_ _) | (with_reducible refine Up.call ?_ (by with_reducible assumption)) | go_size))); clear howb hfwb; (try dsimp only))
          refine hK.out _ _ ?_ (fun hHeld => ?_)
          · exact trivial
          clear hK K
          (try simp only [Act.put, List.getElem_toArray, List.getElem_cons_zero, List.getElem_cons_succ, List.setIfInBounds_toArray, List.set_cons_zero, List.set_cons_succ])
          refine wpAnyH_ready (rs := [9]) (by decide +kernel) (by simp) ?_
          refine AllReadyH.cons rfl (fun K hK => ?_) (AllReadyH.nil)
          (try simp only [List.getElem_toArray, List.getElem_cons_zero, List.getElem_cons_succ])
          (go_simp; go_at_call 25; (with_reducible refine (cloneInts _ dl _ _ (HD.out.up (by (repeat' (first | (with_reducible exact Up.refl _) | (with_reducible assumption) | (with_reducible refine Up.alloc ?_ _) | (with_reducible refine Up.drew ?_) | (with_reducible refine Up.drewN ?_ _) | (with_reducible refine Up.setCell ?_ ?_ _) | (with_reducible refine Up.call ?_ (by with_reducible assumption)) | go_size)))) (ints_oneCell _ _) (by omega)).mono ?_); rintro E wc ⟨v15, rfl, howc, hfwc, uc⟩; (obtain ⟨a15, c15, rfl⟩ := owned_val howc); have HOwc := Lib.hid howc; have HFwc := Lib.hid hfwc; have zwc := uc.size; (try simp at zwc); have HK := Lib.hid (HK.out.up uc); (obtain ⟨cc1, cc12, cc21, fr1, fr12, fr21, lb⟩ := HK.out.cells); have Uwc := Lib.hid (show Up w wc by (repeat' (first | (with_reducible exact Up.refl _) | (with_reducible assumption) | (with_reducible refine Up.alloc ?_ _) | (with_reducible refine Up.drew ?_) | (with_reducible refine Up.drewN ?_ _) | (with_reducible refine Up.setCell ?_ ?_ _) | (with_reducible refine Up.call ?_ (by with_reducible assumption)) | go_size))); clear howc hfwc; (try dsimp only))
          refine hK.out _ _ ?_ (fun hHeld => ?_)
          · exact trivial
          clear hK K
          (try simp only [Act.put, List.getElem_toArray, List.getElem_cons_zero, List.getElem_cons_succ, List.setIfInBounds_toArray, List.set_cons_zero, List.set_cons_succ])
          refine wpAnyH_ready (rs := [11]) (by decide +kernel) (by simp) ?_
          refine AllReadyH.cons rfl (fun K hK => ?_) (AllReadyH.nil)
          (try simp only [List.getElem_toArray, List.getElem_cons_zero, List.getElem_cons_succ])
          (go_simp)
          refine hK.out _ _ ?_ (fun hHeld => ?_)
          · exact trivial
          clear hK K
          (try simp only [Act.put, List.getElem_toArray, List.getElem_cons_zero, List.getElem_cons_succ, List.setIfInBounds_toArray, List.set_cons_zero, List.set_cons_succ])
          refine wpAnyH_take (i := 12) (v := ?_) rfl (by kernel_rfl) (by kernel_rfl) (by kernel_rfl) (fun _ _ _ h => h) (Or.inl ⟨by rfl, ?_⟩) (by assumption) ?_
          rotate_left
          · intro w2 hSw
            (try dsimp only at hSw)
            (try (obtain ⟨hs1, hs2, hs3⟩ := hSw))
            go_simp
            (try (with_reducible rfl))
          (try simp only [Act.put, List.getElem_toArray, List.getElem_cons_zero, List.getElem_cons_succ, List.setIfInBounds_toArray, List.set_cons_zero, List.set_cons_succ])
          refine wpAnyH_ready (rs := [13]) (by decide +kernel) (by simp) ?_
          refine AllReadyH.cons rfl (fun K hK => ?_) (AllReadyH.nil)
          (try simp only [List.getElem_toArray, List.getElem_cons_zero, List.getElem_cons_succ])
          (go_simp)
          refine hK.out _ _ ?_ (fun hHeld => ?_)
          · exact trivial
          clear hK K
          (try simp only [Act.put, List.getElem_toArray, List.getElem_cons_zero, List.getElem_cons_succ, List.setIfInBounds_toArray, List.set_cons_zero, List.set_cons_succ])
          refine wpAnyH_take (i := 14) (v := ?_) rfl (by kernel_rfl) (by kernel_rfl) (by kernel_rfl) (fun _ _ _ h => h) (Or.inl ⟨by rfl, ?_⟩) (by assumption) ?_
          rotate_left
          · intro w2 hSw
            (try dsimp only at hSw)
            (try (obtain ⟨hs1, hs2, hs3⟩ := hSw))
            go_simp
            (try (with_reducible rfl))
          (try simp only [Act.put, List.getElem_toArray, List.getElem_cons_zero, List.getElem_cons_succ, List.setIfInBounds_toArray, List.set_cons_zero, List.set_cons_succ])
          refine wpAnyH_take (i := 15) (v := ?_) rfl (by kernel_rfl) (by kernel_rfl) (by kernel_rfl) (fun _ _ _ h => h) (Or.inl ⟨by rfl, ?_⟩) (by assumption) ?_
          rotate_left
          · intro w2 hSw
            (try dsimp only at hSw)
            (try (obtain ⟨hs1, hs2, hs3⟩ := hSw))
            go_simp
            (try (with_reducible rfl))
          (try simp only [Act.put, List.getElem_toArray, List.getElem_cons_zero, List.getElem_cons_succ, List.setIfInBounds_toArray, List.set_cons_zero, List.set_cons_succ])
          refine wpAnyH_ready (rs := [16]) (by decide +kernel) (by simp) ?_
          refine AllReadyH.cons rfl (fun K hK => ?_) (AllReadyH.nil)
          (try simp only [List.getElem_toArray, List.getElem_cons_zero, List.getElem_cons_succ])
          (go_simp)
          refine hK.out _ _ ?_ (fun hHeld => ?_)
          · exact trivial
          clear hK K
          (try simp only [Act.put, List.getElem_toArray, List.getElem_cons_zero, List.getElem_cons_succ, List.setIfInBounds_toArray, List.set_cons_zero, List.set_cons_succ])
          refine wpAnyH_done (by kernel_rfl) ?_ _
          (try dsimp only)
          generalize hWF : World.setCell (World.setCell (World.setCell _ _ _) _ _) _ _ = wf
          have hr := HK.out.r
          have hz := HK.out.z
          have RF : Row wf w.heap.size #[.int .i64 k, .slice a8 pl c8, .int .i64 sp, .int .i64 p0, .int .i64 p1, .int .i64 p2, .int .i64 p3, .slice ca cl cc, .int .i64 wd, .int .i64 cp, .int .i64 jn, .int .i64 mt, .slice a15 dl c15, .int .i64 ph, .int .i64 fn, .int .i64 m.a, .int .i64 m.b, .int .i64 m.c, .int .i64 m.d, .int .i64 m.x, .int .i64 m.y, .slice a11 bl c11] := by rw [← hWF]; exact (by apply cast; (case h => (repeat (first | (with_reducible assumption) | (with_reducible apply Row.at; (simp; done)) | (with_reducible apply Row.alloc) | (with_reducible apply Row.drew) | (with_reducible apply Row.drewN) | (with_reducible apply Row.set) | ((with_reducible apply Row.other); (case hp => first | (simp; done) | (simp; omega) | omega))))); (case e => rfl))
          have RZ : Row wf (w.heap.size + 1) #[.int .i64 0, .slice none 0 0, .int .i64 0, .int .i64 0, .int .i64 0, .int .i64 0, .int .i64 0, .slice none 0 0, .int .i64 0, .int .i64 0, .int .i64 0, .int .i64 0, .slice none 0 0, .int .i64 0, .int .i64 0, .int .i64 0, .int .i64 0, .int .i64 0, .int .i64 0, .int .i64 0, .int .i64 0, .slice none 0 0] := by rw [← hWF]; exact (by apply cast; (case h => (repeat (first | (with_reducible assumption) | (with_reducible apply Row.at; (simp; done)) | (with_reducible apply Row.alloc) | (with_reducible apply Row.drew) | (with_reducible apply Row.drewN) | (with_reducible apply Row.set) | ((with_reducible apply Row.other); (case hp => first | (simp; done) | (simp; omega) | omega))))); (case e => rfl))
          have hcf : Chg [w.heap.size] wc wf := by rw [← hWF]; exact (((Chg.refl [w.heap.size] wc).setCell (Or.inl (by simp)) _).setCell (Or.inl (by simp)) _).setCell (Or.inl (by simp)) _
          clear hWF hHeld
          go_wp2
          go_meet
          case rel => exact Lib.hid ⟨_, _, _, _, _, _, cloned_mk HPN.out HOwa.out (fun g hg => by have h1 := HFwa.out g hg; have h2 : W0.heap.size ≤ g := h1.1; exact ⟨by omega, h1.2⟩) HOwb.out HFwb.out HOwc.out HFwc.out ub uc hcf Uwc.out (by have h3 : W0.heap.size ≤ wa.heap.size := ua.size; omega) RF RZ⟩
      · skip
        (try simp only [List.getElem_toArray, List.getElem_cons_zero, List.getElem_cons_succ])
        (go_simp)
        refine hK.out _ _ ?_ (fun hHeld => ?_)
        · exact trivial
        clear hK K
        (try simp only [Act.put, List.getElem_toArray, List.getElem_cons_zero, List.getElem_cons_succ, List.setIfInBounds_toArray, List.set_cons_zero, List.set_cons_succ])
        refine wpAnyH_ready (rs := [2, 4]) (by decide +kernel) (by simp) ?_
        refine AllReadyH.cons rfl (fun K hK => ?_) (AllReadyH.cons rfl (fun K hK => ?_) (AllReadyH.nil))
        · skip
          (try simp only [List.getElem_toArray, List.getElem_cons_zero, List.getElem_cons_succ])
          (go_simp; go_at_call 60; (with_reducible refine (cloneSegs _ pl _ _ (HP.out.up (by (repeat' (first | (with_reducible exact Up.refl _) | (with_reducible assumption) | (with_reducible refine Up.alloc ?_ _) | (with_reducible refine Up.drew ?_) | (with_reducible refine Up.drewN ?_ _) | (with_reducible refine Up.setCell ?_ ?_ _) | (with_reducible refine Up.call ?_ (by with_reducible assumption)) | go_size)))) (PathM.segCells_one l) (by omega)).mono ?_); rintro E wa ⟨v8, rfl, howa, hfwa, ua⟩; (obtain ⟨a8, c8, rfl⟩ := owned_val howa); have HOwa := Lib.hid howa; have HFwa := Lib.hid hfwa; have zwa := ua.size; (try simp at zwa); have HK := Lib.hid (HK.out.up ua); (obtain ⟨cc1, cc12, cc21, fr1, fr12, fr21, lb⟩ := HK.out.cells); have Uwa := Lib.hid (show Up w wa by (repeat' (first | (with_reducible exact Up.refl _) | (with_reducible assumption) | (with_reducible refine Up.alloc ?_ _) | (with_reducible refine Up.drew ?_) | (with_reducible refine Up.drewN ?_ _) | (with_reducible refine Up.setCell ?_ ?_ _) | (with_reducible refine Up.call ?_ (by with_reducible assumption)) | go_size))); clear howa hfwa; (try dsimp only))
          refine hK.out _ _ ?_ (fun hHeld => ?_)
          · exact trivial
          clear hK K
          (try simp only [Act.put, List.getElem_toArray, List.getElem_cons_zero, List.getElem_cons_succ, List.setIfInBounds_toArray, List.set_cons_zero, List.set_cons_succ])
          refine wpAnyH_ready (rs := [4]) (by decide +kernel) (by simp) ?_
          refine AllReadyH.cons rfl (fun K hK => ?_) (AllReadyH.nil)
          (try simp only [List.getElem_toArray, List.getElem_cons_zero, List.getElem_cons_succ])
          (go_simp)
          refine hK.out _ _ ?_ (fun hHeld => ?_)
          · exact trivial
          clear hK K
          (try simp only [Act.put, List.getElem_toArray, List.getElem_cons_zero, List.getElem_cons_succ, List.setIfInBounds_toArray, List.set_cons_zero, List.set_cons_succ])
          refine wpAnyH_take (i := 10) (v := ?_) rfl (by kernel_rfl) (by kernel_rfl) (by kernel_rfl) (fun _ _ _ h => h) (Or.inl ⟨by rfl, ?_⟩) (by assumption) ?_
          rotate_left
          · intro w2 hSw
            (try dsimp only at hSw)
            (try (obtain ⟨hs1, hs2, hs3⟩ := hSw))
            go_simp
            (try (with_reducible rfl))
          (try simp only [Act.put, List.getElem_toArray, List.getElem_cons_zero, List.getElem_cons_succ, List.setIfInBounds_toArray, List.set_cons_zero, List.set_cons_succ])
          refine wpAnyH_ready (rs := [5]) (by decide +kernel) (by simp) ?_
          refine AllReadyH.cons rfl (fun K hK => ?_) (AllReadyH.nil)
          (try simp only [List.getElem_toArray, List.getElem_cons_zero, List.getElem_cons_succ])
          (go_simp; go_at_call 61; (with_reducible refine (cloneBytes _ bl _ _ (HB.out.up (by (repeat' (first | (with_reducible exact Up.refl _) | (with_reducible assumption) | (with_reducible refine Up.alloc ?_ _) | (with_reducible refine Up.drew ?_) | (with_reducible refine Up.drewN ?_ _) | (with_reducible refine Up.setCell ?_ ?_ _) | (with_reducible refine Up.call ?_ (by with_reducible assumption)) | go_size)))) (ints_oneCell _ _) (by omega)).mono ?_); rintro E wb ⟨v11, rfl, howb, hfwb, ub⟩; (obtain ⟨a11, c11, rfl⟩ := owned_val howb); have HOwb := Lib.hid howb; have HFwb := Lib.hid hfwb; have zwb := ub.size; (try simp at zwb); have HK := Lib.hid (HK.out.up ub); (obtain ⟨cc1, cc12, cc21, fr1, fr12, fr21, lb⟩ := HK.out.cells); have Uwb := Lib.hid (show Up w wb by (repeat' (first | (with_reducible exact Up.refl _) | (with_reducible assumption) | (with_reducible refine Up.alloc ?_ _) | (with_reducible refine Up.drew ?_) | (with_reducible refine Up.drewN ?_ _) | (with_reducible refine Up.setCell ?_ ?_ _) | (with_reducible refine Up.call ?_ (by with_reducible assumption)) | go_size))); clear howb hfwb; (try dsimp only))
          refine hK.out _ _ ?_ (fun hHeld => ?_)
          · exact trivial
          clear hK K
          (try simp only [Act.put, List.getElem_toArray, List.getElem_cons_zero, List.getElem_cons_succ, List.setIfInBounds_toArray, List.set_cons_zero, List.set_cons_succ])
          refine wpAnyH_ready (rs := [9]) (by decide +kernel) (by simp) ?_
          refine AllReadyH.cons rfl (fun K hK => ?_) (AllReadyH.nil)
          (try simp only [List.getElem_toArray, List.getElem_cons_zero, List.getElem_cons_succ])
          (go_simp; go_at_call 25; (with_reducible refine (cloneInts _ dl _ _ (HD.out.up (by (repeat' (first | (with_reducible exact Up.refl _) | (with_reducible assumption) | (with_reducible refine Up.alloc ?_ _) | (with_reducible refine Up.drew ?_) | (with_reducible refine Up.drewN ?_ _) | (with_reducible refine Up.setCell ?_ ?_ _) | (with_reducible refine Up.call ?_ (by with_reducible assumption)) | go_size)))) (ints_oneCell _ _) (by omega)).mono ?_); rintro E wc ⟨v15, rfl, howc, hfwc, uc⟩; (obtain ⟨a15, c15, rfl⟩ := owned_val howc); have HOwc := Lib.hid howc; have HFwc := Lib.hid hfwc; have zwc := uc.size; (try simp at zwc); have HK := Lib.hid (HK.out.up uc); (obtain ⟨cc1, cc12, cc21, fr1, fr12, fr21, lb⟩ := HK.out.cells); have Uwc := Lib.hid (show Up w wc by (repeat' (first | (with_reducible exact Up.refl _) | (with_reducible assumption) | (with_reducible refine Up.alloc ?_ _) | (with_reducible refine Up.drew ?_) | (with_reducible refine Up.drewN ?_ _) | (with_reducible refine Up.setCell ?_ ?_ _) | (with_reducible refine Up.call ?_ (by with_reducible assumption)) | go_size))); clear howc hfwc; (try dsimp only))
          refine hK.out _ _ ?_ (fun hHeld => ?_)
          · exact trivial
          clear hK K
          (try simp only [Act.put, List.getElem_toArray, List.getElem_cons_zero, List.getElem_cons_succ, List.setIfInBounds_toArray, List.set_cons_zero, List.set_cons_succ])
          refine wpAnyH_ready (rs := [11]) (by decide +kernel) (by simp) ?_
          refine AllReadyH.cons rfl (fun K hK => ?_) (AllReadyH.nil)
          (try simp only [List.getElem_toArray, List.getElem_cons_zero, List.getElem_cons_succ])
          (go_simp)
          refine hK.out _ _ ?_ (fun hHeld => ?_)
          · exact trivial
          clear hK K
          (try simp only [Act.put, List.getElem_toArray, List.getElem_cons_zero, List.getElem_cons_succ, List.setIfInBounds_toArray, List.set_cons_zero, List.set_cons_succ])
          refine wpAnyH_take (i := 12) (v := ?_) rfl (by kernel_rfl) (by kernel_rfl) (by kernel_rfl) (fun _ _ _ h => h) (Or.inl ⟨by rfl, ?_⟩) (by assumption) ?_
          rotate_left
          · intro w2 hSw
            (try dsimp only at hSw)
            (try (obtain ⟨hs1, hs2, hs3⟩ := hSw))
            go_simp
            (try (with_reducible rfl))
          (try simp only [Act.put, List.getElem_toArray, List.getElem_cons_zero, List.getElem_cons_succ, List.setIfInBounds_toArray, List.set_cons_zero, List.set_cons_succ])
          refine wpAnyH_ready (rs := [13]) (by decide +kernel) (by simp) ?_
          refine AllReadyH.cons rfl (fun K hK => ?_) (AllReadyH.nil)
          (try simp only [List.getElem_toArray, List.getElem_cons_zero, List.getElem_cons_succ])
          (go_simp)
          refine hK.out _ _ ?_ (fun hHeld => ?_)
          · exact trivial
          clear hK K
          (try simp only [Act.put, List.getElem_toArray, List.getElem_cons_zero, List.getElem_cons_succ, List.setIfInBounds_toArray, List.set_cons_zero, List.set_cons_succ])
          refine wpAnyH_take (i := 14) (v := ?_) rfl (by kernel_rfl) (by kernel_rfl) (by kernel_rfl) (fun _ _ _ h => h) (Or.inl ⟨by rfl, ?_⟩) (by assumption) ?_
          rotate_left
          · intro w2 hSw
            (try dsimp only at hSw)
            (try (obtain ⟨hs1, hs2, hs3⟩ := hSw))
            go_simp
            (try (with_reducible rfl))
          (try simp only [Act.put, List.getElem_toArray, List.getElem_cons_zero, List.getElem_cons_succ, List.setIfInBounds_toArray, List.set_cons_zero, List.set_cons_succ])
          refine wpAnyH_take (i := 15) (v := ?_) rfl (by kernel_rfl) (by kernel_rfl) (by kernel_rfl) (fun _ _ _ h => h) (Or.inl ⟨by rfl, ?_⟩) (by assumption) ?_
          rotate_left
          · intro w2 hSw
            (try dsimp only at hSw)
            (try (obtain ⟨hs1, hs2, hs3⟩ := hSw))
            go_simp
            (try (with_reducible rfl))
          (try simp only [Act.put, List.getElem_toArray, List.getElem_cons_zero, List.getElem_cons_succ, List.setIfInBounds_toArray, List.set_cons_zero, List.set_cons_succ])
          refine wpAnyH_ready (rs := [16]) (by decide +kernel) (by simp) ?_
          refine AllReadyH.cons rfl (fun K hK => ?_) (AllReadyH.nil)
          (try simp only [List.getElem_toArray, List.getElem_cons_zero, List.getElem_cons_succ])
          (go_simp)
          refine hK.out _ _ ?_ (fun hHeld => ?_)
          · exact trivial
          clear hK K
          (try simp only [Act.put, List.getElem_toArray, List.getElem_cons_zero, List.getElem_cons_succ, List.setIfInBounds_toArray, List.set_cons_zero, List.set_cons_succ])
          refine wpAnyH_done (by kernel_rfl) ?_ _
          (try dsimp only)
          generalize hWF : World.setCell (World.setCell (World.setCell _ _ _) _ _) _ _ = wf
          have hr := HK.out.r
          have hz := HK.out.z
          have RF : Row wf w.heap.size #[.int .i64 k, .slice a8 pl c8, .int .i64 sp, .int .i64 p0, .int .i64 p1, .int .i64 p2, .int .i64 p3, .slice ca cl cc, .int .i64 wd, .int .i64 cp, .int .i64 jn, .int .i64 mt, .slice a15 dl c15, .int .i64 ph, .int .i64 fn, .int .i64 m.a, .int .i64 m.b, .int .i64 m.c, .int .i64 m.d, .int .i64 m.x, .int .i64 m.y, .slice a11 bl c11] := by rw [← hWF]; exact (by apply cast; (case h => (repeat (first | (with_reducible assumption) | (with_reducible apply Row.at; (simp; done)) | (with_reducible apply Row.alloc) | (with_reducible apply Row.drew) | (with_reducible apply Row.drewN) | (with_reducible apply Row.set) | ((with_reducible apply Row.other); (case hp => first | (simp; done) | (simp; omega) | omega))))); (case e => rfl))
          have RZ : Row wf (w.heap.size + 1) #[.int .i64 0, .slice none 0 0, .int .i64 0, .int .i64 0, .int .i64 0, .int .i64 0, .int .i64 0, .slice none 0 0, .int .i64 0, .int .i64 0, .int .i64 0, .int .i64 0, .slice none 0 0, .int .i64 0, .int .i64 0, .int .i64 0, .int .i64 0, .int .i64 0, .int .i64 0, .int .i64 0, .int .i64 0, .slice none 0 0] := by rw [← hWF]; exact (by apply cast; (case h => (repeat (first | (with_reducible assumption) | (with_reducible apply Row.at; (simp; done)) | (with_reducible apply Row.alloc) | (with_reducible apply Row.drew) | (with_reducible apply Row.drewN) | (with_reducible apply Row.set) | ((with_reducible apply Row.other); (case hp => first | (simp; done) | (simp; omega) | omega))))); (case e => rfl))
          have hcf : Chg [w.heap.size] wc wf := by rw [← hWF]; exact (((Chg.refl [w.heap.size] wc).setCell (Or.inl (by simp)) _).setCell (Or.inl (by simp)) _).setCell (Or.inl (by simp)) _
          clear hWF hHeld
          go_wp2
          go_meet
          case rel => exact Lib.hid ⟨_, _, _, _, _, _, cloned_mk HPN.out HOwa.out (fun g hg => by have h1 := HFwa.out g hg; have h2 : W0.heap.size ≤ g := h1.1; exact ⟨by omega, h1.2⟩) HOwb.out HFwb.out HOwc.out HFwc.out ub uc hcf Uwc.out (by have h3 : W0.heap.size ≤ wa.heap.size := ua.size; omega) RF RZ⟩
        · skip
          (try simp only [List.getElem_toArray, List.getElem_cons_zero, List.getElem_cons_succ])
          (go_simp)
          refine hK.out _ _ ?_ (fun hHeld => ?_)
          · exact trivial
          clear hK K
          (try simp only [Act.put, List.getElem_toArray, List.getElem_cons_zero, List.getElem_cons_succ, List.setIfInBounds_toArray, List.set_cons_zero, List.set_cons_succ])
          refine wpAnyH_ready (rs := [2]) (by decide +kernel) (by simp) ?_
          refine AllReadyH.cons rfl (fun K hK => ?_) (AllReadyH.nil)
          (try simp only [List.getElem_toArray, List.getElem_cons_zero, List.getElem_cons_succ])
          (go_simp; go_at_call 60; (with_reducible refine (cloneSegs _ pl _ _ (HP.out.up (by (repeat' (first | (with_reducible exact Up.refl _) | (with_reducible assumption) | (with_reducible refine Up.alloc ?_ _) | (with_reducible refine Up.drew ?_) | (with_reducible refine Up.drewN ?_ _) | (with_reducible refine Up.setCell ?_ ?_ _) | (with_reducible refine Up.call ?_ (by with_reducible assumption)) | go_size)))) (PathM.segCells_one l) (by omega)).mono ?_); rintro E wa ⟨v8, rfl, howa, hfwa, ua⟩; (obtain ⟨a8, c8, rfl⟩ := owned_val howa); have HOwa := Lib.hid howa; have HFwa := Lib.hid hfwa; have zwa := ua.size; (try simp at zwa); have HK := Lib.hid (HK.out.up ua); (obtain ⟨cc1, cc12, cc21, fr1, fr12, fr21, lb⟩ := HK.out.cells); have Uwa := Lib.hid (show Up w wa by (repeat' (first | (with_reducible exact Up.refl _) | (with_reducible assumption) | (with_reducible refine Up.alloc ?_ _) | (with_reducible refine Up.drew ?_) | (with_reducible refine Up.drewN ?_ _) | (with_reducible refine Up.setCell ?_ ?_ _) | (with_reducible refine Up.call ?_ (by with_reducible assumption)) | go_size))); clear howa hfwa; (try dsimp only))
          refine hK.out _ _ ?_ (fun hHeld => ?_)
          · exact trivial
          clear hK K
          (try simp only [Act.put, List.getElem_toArray, List.getElem_cons_zero, List.getElem_cons_succ, List.setIfInBounds_toArray, List.set_cons_zero, List.set_cons_succ])
          refine wpAnyH_take (i := 10) (v := ?_) rfl (by kernel_rfl) (by kernel_rfl) (by kernel_rfl) (fun _ _ _ h => h) (Or.inl ⟨by rfl, ?_⟩) (by assumption) ?_
          rotate_left
          · intro w2 hSw
            (try dsimp only at hSw)
            (try (obtain ⟨hs1, hs2, hs3⟩ := hSw))
            go_simp
            (try (with_reducible rfl))
          (try simp only [Act.put, List.getElem_toArray, List.getElem_cons_zero, List.getElem_cons_succ, List.setIfInBounds_toArray, List.set_cons_zero, List.set_cons_succ])
          refine wpAnyH_ready (rs := [5]) (by decide +kernel) (by simp) ?_
          refine AllReadyH.cons rfl (fun K hK => ?_) (AllReadyH.nil)
          (try simp only [List.getElem_toArray, List.getElem_cons_zero, List.getElem_cons_succ])
          (go_simp; go_at_call 61; (with_reducible refine (cloneBytes _ bl _ _ (HB.out.up (by (repeat' (first | (with_reducible exact Up.refl _) | (with_reducible assumption) | (with_reducible refine Up.alloc ?_ _) | (with_reducible refine Up.drew ?_) | (with_reducible refine Up.drewN ?_ _) | (with_reducible refine Up.setCell ?_ ?_ _) | (with_reducible refine Up.call ?_ (by with_reducible assumption)) | go_size)))) (ints_oneCell _ _) (by omega)).mono ?_); rintro E wb ⟨v11, rfl, howb, hfwb, ub⟩; (obtain ⟨a11, c11, rfl⟩ := owned_val howb); have HOwb := Lib.hid howb; have HFwb := Lib.hid hfwb; have zwb := ub.size; (try simp at zwb); have HK := Lib.hid (HK.out.up ub); (obtain ⟨cc1, cc12, cc21, fr1, fr12, fr21, lb⟩ := HK.out.cells); have Uwb := Lib.hid (show Up w wb by (repeat' (first | (with_reducible exact Up.refl _) | (with_reducible assumption) | (with_reducible refine Up.alloc ?_ _) | (with_reducible refine Up.drew ?_) | (with_reducible refine Up.drewN ?_ _) | (with_reducible refine Up.setCell ?_ ?_ _) | (with_reducible refine Up.call ?_ (by with_reducible assumption)) | go_size))); clear howb hfwb; (try dsimp only))
          refine hK.out _ _ ?_ (fun hHeld => ?_)
          · exact trivial
          clear hK K
          (try simp only [Act.put, List.getElem_toArray, List.getElem_cons_zero, List.getElem_cons_succ, List.setIfInBounds_toArray, List.set_cons_zero, List.set_cons_succ])
          refine wpAnyH_ready (rs := [9]) (by decide +kernel) (by simp) ?_
          refine AllReadyH.cons rfl (fun K hK => ?_) (AllReadyH.nil)
          (try simp only [List.getElem_toArray, List.getElem_cons_zero, List.getElem_cons_succ])
          (go_simp; go_at_call 25; (with_reducible refine (cloneInts _ dl _ _ (HD.out.up (by (repeat' (first | (with_reducible exact Up.refl _) | (with_reducible assumption) | (with_reducible refine Up.alloc ?_ _) | (with_reducible refine Up.drew ?_) | (with_reducible refine Up.drewN ?_ _) | (with_reducible refine Up.setCell ?_ ?_ _) | (with_reducible refine Up.call ?_ (by with_reducible assumption)) | go_size)))) (ints_oneCell _ _) (by omega)).mono ?_); rintro E wc ⟨v15, rfl, howc, hfwc, uc⟩; (obtain ⟨a15, c15, rfl⟩ := owned_val howc); have HOwc := Lib.hid howc; have HFwc := Lib.hid hfwc; have zwc := uc.size; (try simp at zwc); have HK := Lib.hid (HK.out.up uc); (obtain ⟨cc1, cc12, cc21, fr1, fr12, fr21, lb⟩ := HK.out.cells); have Uwc := Lib.hid (show Up w wc by (repeat' (first | (with_reducible exact Up.refl _) | (with_reducible assumption) | (with_reducible refine Up.alloc ?_ _) | (with_reducible refine Up.drew ?_) | (with_reducible refine Up.drewN ?_ _) | (with_reducible refine Up.setCell ?_ ?_ _) | (with_reducible refine Up.call ?_ (by with_reducible assumption)) | go_size))); clear howc hfwc; (try dsimp only))
          refine hK.out _ _ ?_ (fun hHeld => ?_)
          · exact trivial
          clear hK K
          (try simp only [Act.put, List.getElem_toArray, List.getElem_cons_zero, List.getElem_cons_succ, List.setIfInBounds_toArray, List.set_cons_zero, List.set_cons_succ])
          refine wpAnyH_ready (rs := [11]) (by decide +kernel) (by simp) ?_
          refine AllReadyH.cons rfl (fun K hK => ?_) (AllReadyH.nil)
          (try simp only [List.getElem_toArray, List.getElem_cons_zero, List.getElem_cons_succ])
          (go_simp)
          refine hK.out _ _ ?_ (fun hHeld => ?_)
          · exact trivial
          clear hK K
          (try simp only [Act.put, List.getElem_toArray, List.getElem_cons_zero, List.getElem_cons_succ, List.setIfInBounds_toArray, List.set_cons_zero, List.set_cons_succ])
          refine wpAnyH_take (i := 12) (v := ?_) rfl (by kernel_rfl) (by kernel_rfl) (by kernel_rfl) (fun _ _ _ h => h) (Or.inl ⟨by rfl, ?_⟩) (by assumption) ?_
          rotate_left
          · intro w2 hSw
            (try dsimp only at hSw)
            (try (obtain ⟨hs1, hs2, hs3⟩ := hSw))
            go_simp
            (try (with_reducible rfl))
          (try simp only [Act.put, List.getElem_toArray, List.getElem_cons_zero, List.getElem_cons_succ, List.setIfInBounds_toArray, List.set_cons_zero, List.set_cons_succ])
          refine wpAnyH_ready (rs := [13]) (by decide +kernel) (by simp) ?_
          refine AllReadyH.cons rfl (fun K hK => ?_) (AllReadyH.nil)
          (try simp only [List.getElem_toArray, List.getElem_cons_zero, List.getElem_cons_succ])
          (go_simp)
          refine hK.out _ _ ?_ (fun hHeld => ?_)
          · exact trivial
          clear hK K
          (try simp only [Act.put, List.getElem_toArray, List.getElem_cons_zero, List.getElem_cons_succ, List.setIfInBounds_toArray, List.set_cons_zero, List.set_cons_succ])
          refine wpAnyH_take (i := 14) (v := ?_) rfl (by kernel_rfl) (by kernel_rfl) (by kernel_rfl) (fun _ _ _ h => h) (Or.inl ⟨by rfl, ?_⟩) (by assumption) ?_
          rotate_left
          · intro w2 hSw
            (try dsimp only at hSw)
            (try (obtain ⟨hs1, hs2, hs3⟩ := hSw))
            go_simp
            (try (with_reducible rfl))
          (try simp only [Act.put, List.getElem_toArray, List.getElem_cons_zero, List.getElem_cons_succ, List.setIfInBounds_toArray, List.set_cons_zero, List.set_cons_succ])
          refine wpAnyH_take (i := 15) (v := ?_) rfl (by kernel_rfl) (by kernel_rfl) (by kernel_rfl) (fun _ _ _ h => h) (Or.inl ⟨by rfl, ?_⟩) (by assumption) ?_
          rotate_left
          · intro w2 hSw
            (try dsimp only at hSw)
            (try (obtain ⟨hs1, hs2, hs3⟩ := hSw))
            go_simp
            (try (with_reducible rfl))
          (try simp only [Act.put, List.getElem_toArray, List.getElem_cons_zero, List.getElem_cons_succ, List.setIfInBounds_toArray, List.set_cons_zero, List.set_cons_succ])
          refine wpAnyH_ready (rs := [16]) (by decide +kernel) (by simp) ?_
          refine AllReadyH.cons rfl (fun K hK => ?_) (AllReadyH.nil)
          (try simp only [List.getElem_toArray, List.getElem_cons_zero, List.getElem_cons_succ])
          (go_simp)
          refine hK.out _ _ ?_ (fun hHeld => ?_)
          · exact trivial
          clear hK K
          (try simp only [Act.put, List.getElem_toArray, List.getElem_cons_zero, List.getElem_cons_succ, List.setIfInBounds_toArray, List.set_cons_zero, List.set_cons_succ])
          refine wpAnyH_done (by kernel_rfl) ?_ _
          (try dsimp only)
          generalize hWF : World.setCell (World.setCell (World.setCell _ _ _) _ _) _ _ = wf
          have hr := HK.out.r
          have hz := HK.out.z
          have RF : Row wf w.heap.size #[.int .i64 k, .slice a8 pl c8, .int .i64 sp, .int .i64 p0, .int .i64 p1, .int .i64 p2, .int .i64 p3, .slice ca cl cc, .int .i64 wd, .int .i64 cp, .int .i64 jn, .int .i64 mt, .slice a15 dl c15, .int .i64 ph, .int .i64 fn, .int .i64 m.a, .int .i64 m.b, .int .i64 m.c, .int .i64 m.d, .int .i64 m.x, .int .i64 m.y, .slice a11 bl c11] := by rw [← hWF]; exact (by apply cast; (case h => (repeat (first | (with_reducible assumption) | (with_reducible apply Row.at; (simp; done)) | (with_reducible apply Row.alloc) | (with_reducible apply Row.drew) | (with_reducible apply Row.drewN) | (with_reducible apply Row.set) | ((with_reducible apply Row.other); (case hp => first | (simp; done) | (simp; omega) | omega))))); (case e => rfl))
          have RZ : Row wf (w.heap.size + 1) #[.int .i64 0, .slice none 0 0, .int .i64 0, .int .i64 0, .int .i64 0, .int .i64 0, .int .i64 0, .slice none 0 0, .int .i64 0, .int .i64 0, .int .i64 0, .int .i64 0, .slice none 0 0, .int .i64 0, .int .i64 0, .int .i64 0, .int .i64 0, .int .i64 0, .int .i64 0, .int .i64 0, .int .i64 0, .slice none 0 0] := by rw [← hWF]; exact (by apply cast; (case h => (repeat (first | (with_reducible assumption) | (with_reducible apply Row.at; (simp; done)) | (with_reducible apply Row.alloc) | (with_reducible apply Row.drew) | (with_reducible apply Row.drewN) | (with_reducible apply Row.set) | ((with_reducible apply Row.other); (case hp => first | (simp; done) | (simp; omega) | omega))))); (case e => rfl))
          have hcf : Chg [w.heap.size] wc wf := by rw [← hWF]; exact (((Chg.refl [w.heap.size] wc).setCell (Or.inl (by simp)) _).setCell (Or.inl (by simp)) _).setCell (Or.inl (by simp)) _
          clear hWF hHeld
          go_wp2
          go_meet
          case rel => exact Lib.hid ⟨_, _, _, _, _, _, cloned_mk HPN.out HOwa.out (fun g hg => by have h1 := HFwa.out g hg; have h2 : W0.heap.size ≤ g := h1.1; exact ⟨by omega, h1.2⟩) HOwb.out HFwb.out HOwc.out HFwc.out ub uc hcf Uwc.out (by have h3 : W0.heap.size ≤ wa.heap.size := ua.size; omega) RF RZ⟩
    · skip
      (try simp only [List.getElem_toArray, List.getElem_cons_zero, List.getElem_cons_succ])
      (go_simp)
      refine hK.out _ _ ?_ (fun hHeld => ?_)
      · exact trivial
      clear hK K
      (try simp only [Act.put, List.getElem_toArray, List.getElem_cons_zero, List.getElem_cons_succ, List.setIfInBounds_toArray, List.set_cons_zero, List.set_cons_succ])
      refine wpAnyH_ready (rs := [1, 8]) (by decide +kernel) (by simp) ?_
      refine AllReadyH.cons rfl (fun K hK => ?_) (AllReadyH.cons rfl (fun K hK => ?_) (AllReadyH.nil))
      · skip
        (try simp only [List.getElem_toArray, List.getElem_cons_zero, List.getElem_cons_succ])
        (go_simp)
        refine hK.out _ _ ?_ (fun hHeld => ?_)
        · exact trivial
        clear hK K
        (try simp only [Act.put, List.getElem_toArray, List.getElem_cons_zero, List.getElem_cons_succ, List.setIfInBounds_toArray, List.set_cons_zero, List.set_cons_succ])
        refine wpAnyH_ready (rs := [2, 8]) (by decide +kernel) (by simp) ?_
        refine AllReadyH.cons rfl (fun K hK => ?_) (AllReadyH.cons rfl (fun K hK => ?_) (AllReadyH.nil))
        · skip
          (try simp only [List.getElem_toArray, List.getElem_cons_zero, List.getElem_cons_succ])
          (go_simp; go_at_call 60; (with_reducible refine (cloneSegs _ pl _ _ (HP.out.up (by (repeat' (first | (with_reducible exact Up.refl _) | (with_reducible assumption) | (with_reducible refine Up.alloc ?_ _) | (with_reducible refine Up.drew ?_) | (with_reducible refine Up.drewN ?_ _) | (with_reducible refine Up.setCell ?_ ?_ _) | (with_reducible refine Up.call ?_ (by with_reducible assumption)) | go_size)))) (PathM.segCells_one l) (by omega)).mono ?_); rintro E wa ⟨v8, rfl, howa, hfwa, ua⟩; (obtain ⟨a8, c8, rfl⟩ := owned_val howa); have HOwa := Lib.hid howa; have HFwa := Lib.hid hfwa; have zwa := ua.size; (try simp at zwa); have HK := Lib.hid (HK.out.up ua); (obtain ⟨cc1, cc12, cc21, fr1, fr12, fr21, lb⟩ := HK.out.cells); have Uwa := Lib.hid (show Up w wa by (repeat' (first | (with_reducible exact Up.refl _) | (with_reducible assumption) | (with_reducible refine Up.alloc ?_ _) | (with_reducible refine Up.drew ?_) | (with_reducible refine Up.drewN ?_ _) | (with_reducible refine Up.setCell ?_ ?_ _) | (with_reducible refine Up.call ?_ (by with_reducible assumption)) | go_size))); clear howa hfwa; (try dsimp only))
          refine hK.out _ _ ?_ (fun hHeld => ?_)
          · exact trivial
          clear hK K
          (try simp only [Act.put, List.getElem_toArray, List.getElem_cons_zero, List.getElem_cons_succ, List.setIfInBounds_toArray, List.set_cons_zero, List.set_cons_succ])
          refine wpAnyH_ready (rs := [5, 8]) (by decide +kernel) (by simp) ?_
          refine AllReadyH.cons rfl (fun K hK => ?_) (AllReadyH.cons rfl (fun K hK => ?_) (AllReadyH.nil))
          · skip
            (try simp only [List.getElem_toArray, List.getElem_cons_zero, List.getElem_cons_succ])
            (go_simp; go_at_call 61; (with_reducible refine (cloneBytes _ bl _ _ (HB.out.up (by (repeat' (first | (with_reducible exact Up.refl _) | (with_reducible assumption) | (with_reducible refine Up.alloc ?_ _) | (with_reducible refine Up.drew ?_) | (with_reducible refine Up.drewN ?_ _) | (with_reducible refine Up.setCell ?_ ?_ _) | (with_reducible refine Up.call ?_ (by with_reducible assumption)) | go_size)))) (ints_oneCell _ _) (by omega)).mono ?_); rintro E wb ⟨v11, rfl, howb, hfwb, ub⟩; (obtain ⟨a11, c11, rfl⟩ := owned_val howb); have HOwb := Lib.hid howb; have HFwb := Lib.hid hfwb; have zwb := ub.size; (try simp at zwb); have HK := Lib.hid (HK.out.up ub); (obtain ⟨cc1, cc12, cc21, fr1, fr12, fr21, lb⟩ := HK.out.cells); have Uwb := Lib.hid (show Up w wb by (repeat' (first | (with_reducible exact Up.refl _) | (with_reducible assumption) | (with_reducible refine Up.alloc ?_ _) | (with_reducible refine Up.drew ?_) | (with_reducible refine Up.drewN ?_ _) | (with_reducible refine Up.setCell ?_ ?_ _) | (with_reducible refine Up.call ?_ (by with_reducible assumption)) | go_size))); clear howb hfwb; (try dsimp only))
            refine hK.out _ _ ?_ (fun hHeld => ?_)
            · exact trivial
            clear hK K
            (try simp only [Act.put, List.getElem_toArray, List.getElem_cons_zero, List.getElem_cons_succ, List.setIfInBounds_toArray, List.set_cons_zero, List.set_cons_succ])
            refine wpAnyH_ready (rs := [8]) (by decide +kernel) (by simp) ?_
            refine AllReadyH.cons rfl (fun K hK => ?_) (AllReadyH.nil)
            (try simp only [List.getElem_toArray, List.getElem_cons_zero, List.getElem_cons_succ])
            (go_simp)
            refine hK.out _ _ ?_ (fun hHeld => ?_)
            · exact trivial
            clear hK K
            (try simp only [Act.put, List.getElem_toArray, List.getElem_cons_zero, List.getElem_cons_succ, List.setIfInBounds_toArray, List.set_cons_zero, List.set_cons_succ])
            refine wpAnyH_take (i := 10) (v := ?_) rfl (by kernel_rfl) (by kernel_rfl) (by kernel_rfl) (fun _ _ _ h => h) (Or.inl ⟨by rfl, ?_⟩) (by assumption) ?_
            rotate_left
            · intro w2 hSw
              (try dsimp only at hSw)
              (try (obtain ⟨hs1, hs2, hs3⟩ := hSw))
              go_simp
              (try (with_reducible rfl))
            (try simp only [Act.put, List.getElem_toArray, List.getElem_cons_zero, List.getElem_cons_succ, List.setIfInBounds_toArray, List.set_cons_zero, List.set_cons_succ])
            refine wpAnyH_ready (rs := [9]) (by decide +kernel) (by simp) ?_
            refine AllReadyH.cons rfl (fun K hK => ?_) (AllReadyH.nil)
            (try simp only [List.getElem_toArray, List.getElem_cons_zero, List.getElem_cons_succ])
            (go_simp; go_at_call 25; (with_reducible refine (cloneInts _ dl _ _ (HD.out.up (by (repeat' (first | (with_reducible exact Up.refl _) | (with_reducible assumption) | (with_reducible refine Up.alloc ?_ _) | (with_reducible refine Up.drew ?_) | (with_reducible refine Up.drewN ?_ _) | (with_reducible refine Up.setCell ?_ ?_ _) | (with_reducible refine Up.call ?_ (by with_reducible assumption)) | go_size)))) (ints_oneCell _ _) (by omega)).mono ?_); rintro E wc ⟨v15, rfl, howc, hfwc, uc⟩; (obtain ⟨a15, c15, rfl⟩ := owned_val howc); have HOwc := Lib.hid howc; have HFwc := Lib.hid hfwc; have zwc := uc.size; (try simp at zwc); have HK := Lib.hid (HK.out.up uc); (obtain ⟨cc1, cc12, cc21, fr1, fr12, fr21, lb⟩ := HK.out.cells); have Uwc := Lib.hid (show Up w wc by (repeat' (first | (with_reducible exact Up.refl _) | (with_reducible assumption) | (with_reducible refine Up.alloc ?_ _) | (with_reducible refine Up.drew ?_) | (with_reducible refine Up.drewN ?_ _) | (with_reducible refine Up.setCell ?_ ?_ _) | (with_reducible refine Up.call ?_ (by with_reducible assumption)) | go_size))); clear howc hfwc; (try dsimp only))
            refine hK.out _ _ ?_ (fun hHeld => ?_)
            · exact trivial
            clear hK K
            (try simp only [Act.put, List.getElem_toArray, List.getElem_cons_zero, List.getElem_cons_succ, List.setIfInBounds_toArray, List.set_cons_zero, List.set_cons_succ])
            refine wpAnyH_ready (rs := [11]) (by decide +kernel) (by simp) ?_
            refine AllReadyH.cons rfl (fun K hK => ?_) (AllReadyH.nil)
            (try simp only [List.getElem_toArray, List.getElem_cons_zero, List.getElem_cons_succ])
            (go_simp)
            refine hK.out _ _ ?_ (fun hHeld => ?_)
            · exact trivial
            clear hK K
            (try simp only [Act.put, List.getElem_toArray, List.getElem_cons_zero, List.getElem_cons_succ, List.setIfInBounds_toArray, List.set_cons_zero, List.set_cons_succ])
            refine wpAnyH_take (i := 12) (v := ?_) rfl (by kernel_rfl) (by kernel_rfl) (by kernel_rfl) (fun _ _ _ h => h) (Or.inl ⟨by rfl, ?_⟩) (by assumption) ?_
            rotate_left
            · intro w2 hSw
              (try dsimp only at hSw)
              (try (obtain ⟨hs1, hs2, hs3⟩ := hSw))
              go_simp
              (try (with_reducible rfl))
            (try simp only [Act.put, List.getElem_toArray, List.getElem_cons_zero, List.getElem_cons_succ, List.setIfInBounds_toArray, List.set_cons_zero, List.set_cons_succ])
            refine wpAnyH_ready (rs := [13]) (by decide +kernel) (by simp) ?_
            refine AllReadyH.cons rfl (fun K hK => ?_) (AllReadyH.nil)
            (try simp only [List.getElem_toArray, List.getElem_cons_zero, List.getElem_cons_succ])
            (go_simp)
            refine hK.out _ _ ?_ (fun hHeld => ?_)
            · exact trivial
            clear hK K
            (try simp only [Act.put, List.getElem_toArray, List.getElem_cons_zero, List.getElem_cons_succ, List.setIfInBounds_toArray, List.set_cons_zero, List.set_cons_succ])
            refine wpAnyH_take (i := 14) (v := ?_) rfl (by kernel_rfl) (by kernel_rfl) (by kernel_rfl) (fun _ _ _ h => h) (Or.inl ⟨by rfl, ?_⟩) (by assumption) ?_
            rotate_left
            · intro w2 hSw
              (try dsimp only at hSw)
              (try (obtain ⟨hs1, hs2, hs3⟩ := hSw))
              go_simp
              (try (with_reducible rfl))
            (try simp only [Act.put, List.getElem_toArray, List.getElem_cons_zero, List.getElem_cons_succ, List.setIfInBounds_toArray, List.set_cons_zero, List.set_cons_succ])
            refine wpAnyH_take (i := 15) (v := ?_) rfl (by kernel_rfl) (by kernel_rfl) (by kernel_rfl) (fun _ _ _ h => h) (Or.inl ⟨by rfl, ?_⟩) (by assumption) ?_
            rotate_left
            · intro w2 hSw
              (try dsimp only at hSw)
              (try (obtain ⟨hs1, hs2, hs3⟩ := hSw))
              go_simp
              (try (with_reducible rfl))
            (try simp only [Act.put, List.getElem_toArray, List.getElem_cons_zero, List.getElem_cons_succ, List.setIfInBounds_toArray, List.set_cons_zero, List.set_cons_succ])
            refine wpAnyH_ready (rs := [16]) (by decide +kernel) (by simp) ?_
            refine AllReadyH.cons rfl (fun K hK => ?_) (AllReadyH.nil)
            (try simp only [List.getElem_toArray, List.getElem_cons_zero, List.getElem_cons_succ])
            (go_simp)
            refine hK.out _ _ ?_ (fun hHeld => ?_)
            · exact trivial
            clear hK K
            (try simp only [Act.put, List.getElem_toArray, List.getElem_cons_zero, List.getElem_cons_succ, List.setIfInBounds_toArray, List.set_cons_zero, List.set_cons_succ])
            refine wpAnyH_done (by kernel_rfl) ?_ _
            (try dsimp only)
            generalize hWF : World.setCell (World.setCell (World.setCell _ _ _) _ _) _ _ = wf
            have hr := HK.out.r
            have hz := HK.out.z
            have RF : Row wf w.heap.size #[.int .i64 k, .slice a8 pl c8, .int .i64 sp, .int .i64 p0, .int .i64 p1, .int .i64 p2, .int .i64 p3, .slice ca cl cc, .int .i64 wd, .int .i64 cp, .int .i64 jn, .int .i64 mt, .slice a15 dl c15, .int .i64 ph, .int .i64 fn, .int .i64 m.a, .int .i64 m.b, .int .i64 m.c, .int .i64 m.d, .int .i64 m.x, .int .i64 m.y, .slice a11 bl c11] := by rw [← hWF]; exact (by apply cast; (case h => (repeat (first | (with_reducible assumption) | (with_reducible apply Row.at; (simp; done)) | (with_reducible apply Row.alloc) | (with_reducible apply Row.drew) | (with_reducible apply Row.drewN) | (with_reducible apply Row.set) | ((with_reducible apply Row.other); (case hp => first | (simp; done) | (simp; omega) | omega))))); (case e => rfl))
            have RZ : Row wf (w.heap.size + 1) #[.int .i64 0, .slice none 0 0, .int .i64 0, .int .i64 0, .int .i64 0, .int .i64 0, .int .i64 0, .slice none 0 0, .int .i64 0, .int .i64 0, .int .i64 0, .int .i64 0, .slice none 0 0, .int .i64 0, .int .i64 0, .int .i64 0, .int .i64 0, .int .i64 0, .int .i64 0, .int .i64 0, .int .i64 0, .slice none 0 0] := by rw [← hWF]; exact (by apply cast; (case h => (repeat (first | (with_reducible assumption) | (with_reducible apply Row.at; (simp; done)) | (with_reducible apply Row.alloc) | (with_reducible apply Row.drew) | (with_reducible apply Row.drewN) | (with_reducible apply Row.set) | ((with_reducible apply Row.other); (case hp => first | (simp; done) | (simp; omega) | omega))))); (case e => rfl))
            have hcf : Chg [w.heap.size] wc wf := by rw [← hWF]; exact (((Chg.refl [w.heap.size] wc).setCell (Or.inl (by simp)) _).setCell (Or.inl (by simp)) _).setCell (Or.inl (by simp)) _
            clear hWF hHeld
            go_wp2
            go_meet
            case rel => exact Lib.hid ⟨_, _, _, _, _, _, cloned_mk HPN.out HOwa.out (fun g hg => by have h1 := HFwa.out g hg; have h2 : W0.heap.size ≤ g := h1.1; exact ⟨by omega, h1.2⟩) HOwb.out HFwb.out HOwc.out HFwc.out ub uc hcf Uwc.out (by have h3 : W0.heap.size ≤ wa.heap.size := ua.size; omega) RF RZ⟩
          · skip
            (try simp only [List.getElem_toArray, List.getElem_cons_zero, List.getElem_cons_succ])
            (go_simp)
            refine hK.out _ _ ?_ (fun hHeld => ?_)
            · exact trivial
            clear hK K
            (try simp only [Act.put, List.getElem_toArray, List.getElem_cons_zero, List.getElem_cons_succ, List.setIfInBounds_toArray, List.set_cons_zero, List.set_cons_succ])
            refine wpAnyH_take (i := 10) (v := ?_) rfl (by kernel_rfl) (by kernel_rfl) (by kernel_rfl) (fun _ _ _ h => h) (Or.inl ⟨by rfl, ?_⟩) (by assumption) ?_
            rotate_left
            · intro w2 hSw
              (try dsimp only at hSw)
              (try (obtain ⟨hs1, hs2, hs3⟩ := hSw))
              go_simp
              (try (with_reducible rfl))
            (try simp only [Act.put, List.getElem_toArray, List.getElem_cons_zero, List.getElem_cons_succ, List.setIfInBounds_toArray, List.set_cons_zero, List.set_cons_succ])
            refine wpAnyH_ready (rs := [5]) (by decide +kernel) (by simp) ?_
            refine AllReadyH.cons rfl (fun K hK => ?_) (AllReadyH.nil)
            (try simp only [List.getElem_toArray, List.getElem_cons_zero, List.getElem_cons_succ])
            (go_simp; go_at_call 61; (with_reducible refine (cloneBytes _ bl _ _ (HB.out.up (by (repeat' (first | (with_reducible exact Up.refl _) | (with_reducible assumption) | (with_reducible refine Up.alloc ?_ _) | (with_reducible refine Up.drew ?_) | (with_reducible refine Up.drewN ?_ _) | (with_reducible refine Up.setCell ?_ ?_ _) | (with_reducible refine Up.call ?_ (by with_reducible assumption)) | go_size)))) (ints_oneCell _ _) (by omega)).mono ?_); rintro E wb ⟨v11, rfl, howb, hfwb, ub⟩; (obtain ⟨a11, c11, rfl⟩ := owned_val howb); have HOwb := Lib.hid howb; have HFwb := Lib.hid hfwb; have zwb := ub.size; (try simp at zwb); have HK := Lib.hid (HK.out.up ub); (obtain ⟨cc1, cc12, cc21, fr1, fr12, fr21, lb⟩ := HK.out.cells); have Uwb := Lib.hid (show Up w wb by (repeat' (first | (with_reducible exact Up.refl _) | (with_reducible assumption) | (with_reducible refine Up.alloc ?_ _) | (with_reducible refine Up.drew ?_) | (with_reducible refine Up.drewN ?_ _) | (with_reducible refine Up.setCell ?_ ?_ _) | (with_reducible refine Up.call ?_ (by with_reducible assumption)) | go_size))); clear howb hfwb; (try dsimp only))
            refine hK.out _ _ ?_ (fun hHeld => ?_)
            · exact trivial
            clear hK K
            (try simp only [Act.put, List.getElem_toArray, List.getElem_cons_zero, List.getElem_cons_succ, List.setIfInBounds_toArray, List.set_cons_zero, List.set_cons_succ])
            refine wpAnyH_ready (rs := [9]) (by decide +kernel) (by simp) ?_
            refine AllReadyH.cons rfl (fun K hK => ?_) (AllReadyH.nil)
            (try simp only [List.getElem_toArray, List.getElem_cons_zero, List.getElem_cons_succ])
            (go_simp; go_at_call 25; (with_reducible refine (cloneInts _ dl _ _ (HD.out.up (by (repeat' (first | (with_reducible exact Up.refl _) | (with_reducible assumption) | (with_reducible refine Up.alloc ?_ _) | (with_reducible refine Up.drew ?_) | (with_reducible refine Up.drewN ?_ _) | (with_reducible refine Up.setCell ?_ ?_ _) | (with_reducible refine Up.call ?_ (by with_reducible assumption)) | go_size)))) (ints_oneCell _ _) (by omega)).mono ?_); rintro E wc ⟨v15, rfl, howc, hfwc, uc⟩; (obtain ⟨a15, c15, rfl⟩ := owned_val howc); have HOwc := Lib.hid howc; have HFwc := Lib.hid hfwc; have zwc := uc.size; (try simp at zwc); have HK := Lib.hid (HK.out.up uc); (obtain ⟨cc1, cc12, cc21, fr1, fr12, fr21, lb⟩ := HK.out.cells); have Uwc := Lib.hid (show Up w wc by (repeat' (first | (with_reducible exact Up.refl _) | (with_reducible assumption) | (with_reducible refine Up.alloc ?_ _) | (with_reducible refine Up.drew ?_) | (with_reducible refine Up.drewN ?_ _) | (with_reducible refine Up.setCell ?_ ?_ _) | (with_reducible refine Up.call ?_ (by with_reducible assumption)) | go_size))); clear howc hfwc; (try dsimp only))
            refine hK.out _ _ ?_ (fun hHeld => ?_)
            · exact trivial
            clear hK K
            (try simp only [Act.put, List.getElem_toArray, List.getElem_cons_zero, List.getElem_cons_succ, List.setIfInBounds_toArray, List.set_cons_zero, List.set_cons_succ])
            refine wpAnyH_ready (rs := [11]) (by decide +kernel) (by simp) ?_
            refine AllReadyH.cons rfl (fun K hK => ?_) (AllReadyH.nil)
            (try simp only [List.getElem_toArray, List.getElem_cons_zero, List.getElem_cons_succ])
            (go_simp)
            refine hK.out _ _ ?_ (fun hHeld => ?_)
            · exact trivial
            clear hK K
            (try simp only [Act.put, List.getElem_toArray, List.getElem_cons_zero, List.getElem_cons_succ, List.setIfInBounds_toArray, List.set_cons_zero, List.set_cons_succ])
            refine wpAnyH_take (i := 12) (v := ?_) rfl (by kernel_rfl) (by kernel_rfl) (by kernel_rfl) (fun _ _ _ h => h) (Or.inl ⟨by rfl, ?_⟩) (by assumption) ?_
            rotate_left
            · intro w2 hSw
              (try dsimp only at hSw)
              (try (obtain ⟨hs1, hs2, hs3⟩ := hSw))
              go_simp
              (try (with_reducible rfl))
            (try simp only [Act.put, List.getElem_toArray, List.getElem_cons_zero, List.getElem_cons_succ, List.setIfInBounds_toArray, List.set_cons_zero, List.set_cons_succ])
            refine wpAnyH_ready (rs := [13]) (by decide +kernel) (by simp) ?_
            refine AllReadyH.cons rfl (fun K hK => ?_) (AllReadyH.nil)
            (try simp only [List.getElem_toArray, List.getElem_cons_zero, List.getElem_cons_succ])
            (go_simp)
            refine hK.out _ _ ?_ (fun hHeld => ?_)
            · exact trivial
            clear hK K
            (try simp only [Act.put, List.getElem_toArray, List.getElem_cons_zero, List.getElem_cons_succ, List.setIfInBounds_toArray, List.set_cons_zero, List.set_cons_succ])
            refine wpAnyH_take (i := 14) (v := ?_) rfl (by kernel_rfl) (by kernel_rfl) (by kernel_rfl) (fun _ _ _ h => h) (Or.inl ⟨by rfl, ?_⟩) (by assumption) ?_
            rotate_left
            · intro w2 hSw
              (try dsimp only at hSw)
              (try (obtain ⟨hs1, hs2, hs3⟩ := hSw))
              go_simp
              (try (with_reducible rfl))
            (try simp only [Act.put, List.getElem_toArray, List.getElem_cons_zero, List.getElem_cons_succ, List.setIfInBounds_toArray, List.set_cons_zero, List.set_cons_succ])
            refine wpAnyH_take (i := 15) (v := ?_) rfl (by kernel_rfl) (by kernel_rfl) (by kernel_rfl) (fun _ _ _ h => h) (Or.inl ⟨by rfl, ?_⟩) (by assumption) ?_
            rotate_left
            · intro w2 hSw
              (try dsimp only at hSw)
              (try (obtain ⟨hs1, hs2, hs3⟩ := hSw))
              go_simp
              (try (with_reducible rfl))
            (try simp only [Act.put, List.getElem_toArray, List.getElem_cons_zero, List.getElem_cons_succ, List.setIfInBounds_toArray, List.set_cons_zero, List.set_cons_succ])
            refine wpAnyH_ready (rs := [16]) (by decide +kernel) (by simp) ?_
            refine AllReadyH.cons rfl (fun K hK => ?_) (AllReadyH.nil)
            (try simp only [List.getElem_toArray, List.getElem_cons_zero, List.getElem_cons_succ])
            (go_simp)
            refine hK.out _ _ ?_ (fun hHeld => ?_)
            · exact trivial
            clear hK K
            (try simp only [Act.put, List.getElem_toArray, List.getElem_cons_zero, List.getElem_cons_succ, List.setIfInBounds_toArray, List.set_cons_zero, List.set_cons_succ])
            refine wpAnyH_done (by kernel_rfl) ?_ _
            (try dsimp only)
            generalize hWF : World.setCell (World.setCell (World.setCell _ _ _) _ _) _ _ = wf
            have hr := HK.out.r
            have hz := HK.out.z
            have RF : Row wf w.heap.size #[.int .i64 k, .slice a8 pl c8, .int .i64 sp, .int .i64 p0, .int .i64 p1, .int .i64 p2, .int .i64 p3, .slice ca cl cc, .int .i64 wd, .int .i64 cp, .int .i64 jn, .int .i64 mt, .slice a15 dl c15, .int .i64 ph, .int .i64 fn, .int .i64 m.a, .int .i64 m.b, .int .i64 m.c, .int .i64 m.d, .int .i64 m.x, .int .i64 m.y, .slice a11 bl c11] := by rw [← hWF]; exact (by apply cast; (case h => (repeat (first | (with_reducible assumption) | (with_reducible apply Row.at; (simp; done)) | (with_reducible apply Row.alloc) | (with_reducible apply Row.drew) | (with_reducible apply Row.drewN) | (with_reducible apply Row.set) | ((with_reducible apply Row.other); (case hp => first | (simp; done) | (simp; omega) | omega))))); (case e => rfl))
            have RZ : Row wf (w.heap.size + 1) #[.int .i64 0, .slice none 0 0, .int .i64 0, .int .i64 0, .int .i64 0, .int .i64 0, .int .i64 0, .slice none 0 0, .int .i64 0, .int .i64 0, .int .i64 0, .int .i64 0, .slice none 0 0, .int .i64 0, .int .i64 0, .int .i64 0, .int .i64 0, .int .i64 0, .int .i64 0, .int .i64 0, .int .i64 0, .slice none 0 0] := by rw [← hWF]; exact (by apply cast; (case h => (repeat (first | (with_reducible assumption) | (with_reducible apply Row.at; (simp; done)) | (with_reducible apply Row.alloc) | (with_reducible apply Row.drew) | (with_reducible apply Row.drewN) | (with_reducible apply Row.set) | ((with_reducible apply Row.other); (case hp => first | (simp; done) | (simp; omega) | omega))))); (case e => rfl))
            have hcf : Chg [w.heap.size] wc wf := by rw [← hWF]; exact (((Chg.refl [w.heap.size] wc).setCell (Or.inl (by simp)) _).setCell (Or.inl (by simp)) _).setCell (Or.inl (by simp)) _
            clear hWF hHeld
            go_wp2
            go_meet
            case rel => exact Lib.hid ⟨_, _, _, _, _, _, cloned_mk HPN.out HOwa.out (fun g hg => by have h1 := HFwa.out g hg; have h2 : W0.heap.size ≤ g := h1.1; exact ⟨by omega, h1.2⟩) HOwb.out HFwb.out HOwc.out HFwc.out ub uc hcf Uwc.out (by have h3 : W0.heap.size ≤ wa.heap.size := ua.size; omega) RF RZ⟩
        · skip
          (try simp only [List.getElem_toArray, List.getElem_cons_zero, List.getElem_cons_succ])
          (go_simp)
          refine hK.out _ _ ?_ (fun hHeld => ?_)
          · exact trivial
          clear hK K
          (try simp only [Act.put, List.getElem_toArray, List.getElem_cons_zero, List.getElem_cons_succ, List.setIfInBounds_toArray, List.set_cons_zero, List.set_cons_succ])
          refine wpAnyH_ready (rs := [2]) (by decide +kernel) (by simp) ?_
          refine AllReadyH.cons rfl (fun K hK => ?_) (AllReadyH.nil)
          (try simp only [List.getElem_toArray, List.getElem_cons_zero, List.getElem_cons_succ])
          (go_simp; go_at_call 60; (with_reducible refine (cloneSegs _ pl _ _ (HP.out.up (by (repeat' (first | (with_reducible exact Up.refl _) | (with_reducible assumption) | (with_reducible refine Up.alloc ?_ _) | (with_reducible refine Up.drew ?_) | (with_reducible refine Up.drewN ?_ _) | (with_reducible refine Up.setCell ?_ ?_ _) | (with_reducible refine Up.call ?_ (by with_reducible assumption)) | go_size)))) (PathM.segCells_one l) (by omega)).mono ?_); rintro E wa ⟨v8, rfl, howa, hfwa, ua⟩; (obtain ⟨a8, c8, rfl⟩ := owned_val howa); have HOwa := Lib.hid howa; have HFwa := Lib.hid hfwa; have zwa := ua.size; (try simp at zwa); have HK := Lib.hid (HK.out.up ua); (obtain ⟨cc1, cc12, cc21, fr1, fr12, fr21, lb⟩ := HK.out.cells); have Uwa := Lib.hid (show Up w wa by (repeat' (first | (with_reducible exact Up.refl _) | (with_reducible assumption) | (with_reducible refine Up.alloc ?_ _) | (with_reducible refine Up.drew ?_) | (with_reducible refine Up.drewN ?_ _) | (with_reducible refine Up.setCell ?_ ?_ _) | (with_reducible refine Up.call ?_ (by with_reducible assumption)) | go_size))); clear howa hfwa; (try dsimp only))
          refine hK.out _ _ ?_ (fun hHeld => ?_)
          · exact trivial
          clear hK K
          (try simp only [Act.put, List.getElem_toArray, List.getElem_cons_zero, List.getElem_cons_succ, List.setIfInBounds_toArray, List.set_cons_zero, List.set_cons_succ])
          refine wpAnyH_take (i := 10) (v := ?_) rfl (by kernel_rfl) (by kernel_rfl) (by kernel_rfl) (fun _ _ _ h => h) (Or.inl ⟨by rfl, ?_⟩) (by assumption) ?_
          rotate_left
          · intro w2 hSw
            (try dsimp only at hSw)
            (try (obtain ⟨hs1, hs2, hs3⟩ := hSw))
            go_simp
            (try (with_reducible rfl))
          (try simp only [Act.put, List.getElem_toArray, List.getElem_cons_zero, List.getElem_cons_succ, List.setIfInBounds_toArray, List.set_cons_zero, List.set_cons_succ])
          refine wpAnyH_ready (rs := [5]) (by decide +kernel) (by simp) ?_
          refine AllReadyH.cons rfl (fun K hK => ?_) (AllReadyH.nil)
          (try simp only [List.getElem_toArray, List.getElem_cons_zero, List.getElem_cons_succ])
          (go_simp; go_at_call 61; (with_reducible refine (cloneBytes _ bl _ _ (HB.out.up (by (repeat' (first | (with_reducible exact Up.refl _) | (with_reducible assumption) | (with_reducible refine Up.alloc ?_ _) | (with_reducible refine Up.drew ?_) | (with_reducible refine Up.drewN ?_ _) | (with_reducible refine Up.setCell ?_ ?_ _) | (with_reducible refine Up.call ?_ (by with_reducible assumption)) | go_size)))) (ints_oneCell _ _) (by omega)).mono ?_); rintro E wb ⟨v11, rfl, howb, hfwb, ub⟩; (obtain ⟨a11, c11, rfl⟩ := owned_val howb); have HOwb := Lib.hid howb; have HFwb := Lib.hid hfwb; have zwb := ub.size; (try simp at zwb); have HK := Lib.hid (HK.out.up ub); (obtain ⟨cc1, cc12, cc21, fr1, fr12, fr21, lb⟩ := HK.out.cells); have Uwb := Lib.hid (show Up w wb by (repeat' (first | (with_reducible exact Up.refl _) | (with_reducible assumption) | (with_reducible refine Up.alloc ?_ _) | (with_reducible refine Up.drew ?_) | (with_reducible refine Up.drewN ?_ _) | (with_reducible refine Up.setCell ?_ ?_ _) | (with_reducible refine Up.call ?_ (by with_reducible assumption)) | go_size))); clear howb hfwb; (try dsimp only))
          refine hK.out _ _ ?_ (fun hHeld => ?_)
          · exact trivial
          clear hK K
          (try simp only [Act.put, List.getElem_toArray, List.getElem_cons_zero, List.getElem_cons_succ, List.setIfInBounds_toArray, List.set_cons_zero, List.set_cons_succ])
          refine wpAnyH_ready (rs := [9]) (by decide +kernel) (by simp) ?_
          refine AllReadyH.cons rfl (fun K hK => ?_) (AllReadyH.nil)
          (try simp only [List.getElem_toArray, List.getElem_cons_zero, List.getElem_cons_succ])
          (go_simp; go_at_call 25; (with_reducible refine (cloneInts _ dl _ _ (HD.out.up (by (repeat' (first | (with_reducible exact Up.refl _) | (with_reducible assumption) | (with_reducible refine Up.alloc ?_ _) | (with_reducible refine Up.drew ?_) | (with_reducible refine Up.drewN ?_ _) | (with_reducible refine Up.setCell ?_ ?_ _) | (with_reducible refine Up.call ?_ (by with_reducible assumption)) | go_size)))) (ints_oneCell _ _) (by omega)).mono ?_); rintro E wc ⟨v15, rfl, howc, hfwc, uc⟩; (obtain ⟨a15, c15, rfl⟩ := owned_val howc); have HOwc := Lib.hid howc; have HFwc := Lib.hid hfwc; have zwc := uc.size; (try simp at zwc); have HK := Lib.hid (HK.out.up uc); (obtain ⟨cc1, cc12, cc21, fr1, fr12, fr21, lb⟩ := HK.out.cells); have Uwc := Lib.hid (show Up w wc by (repeat' (first | (with_reducible exact Up.refl _) | (with_reducible assumption) | (with_reducible refine Up.alloc ?_ _) | (with_reducible refine Up.drew ?_) | (with_reducible refine Up.drewN ?_ _) | (with_reducible refine Up.setCell ?_ ?_ _) | (with_reducible refine Up.call ?_ (by with_reducible assumption)) | go_size))); clear howc hfwc; (try dsimp only))
          refine hK.out _ _ ?_ (fun hHeld => ?_)
          · exact trivial
          clear hK K
          (try simp only [Act.put, List.getElem_toArray, List.getElem_cons_zero, List.getElem_cons_succ, List.setIfInBounds_toArray, List.set_cons_zero, List.set_cons_succ])
          refine wpAnyH_ready (rs := [11]) (by decide +kernel) (by simp) ?_
          refine AllReadyH.cons rfl (fun K hK => ?_) (AllReadyH.nil)
          (try simp only [List.getElem_toArray, List.getElem_cons_zero, List.getElem_cons_succ])
          (go_simp)
          refine hK.out _ _ ?_ (fun hHeld => ?_)
          · exact trivial
          clear hK K
          (try simp only [Act.put, List.getElem_toArray, List.getElem_cons_zero, List.getElem_cons_succ, List.setIfInBounds_toArray, List.set_cons_zero, List.set_cons_succ])
          refine wpAnyH_take (i := 12) (v := ?_) rfl (by kernel_rfl) (by kernel_rfl) (by kernel_rfl) (fun _ _ _ h => h) (Or.inl ⟨by rfl, ?_⟩) (by assumption) ?_
          rotate_left
          · intro w2 hSw
            (try dsimp only at hSw)
            (try (obtain ⟨hs1, hs2, hs3⟩ := hSw))
            go_simp
            (try (with_reducible rfl))
          (try simp only [Act.put, List.getElem_toArray, List.getElem_cons_zero, List.getElem_cons_succ, List.setIfInBounds_toArray, List.set_cons_zero, List.set_cons_succ])
          refine wpAnyH_ready (rs := [13]) (by decide +kernel) (by simp) ?_
          refine AllReadyH.cons rfl (fun K hK => ?_) (AllReadyH.nil)
          (try simp only [List.getElem_toArray, List.getElem_cons_zero, List.getElem_cons_succ])
          (go_simp)
          refine hK.out _ _ ?_ (fun hHeld => ?_)
          · exact trivial
          clear hK K
          (try simp only [Act.put, List.getElem_toArray, List.getElem_cons_zero, List.getElem_cons_succ, List.setIfInBounds_toArray, List.set_cons_zero, List.set_cons_succ])
          refine wpAnyH_take (i := 14) (v := ?_) rfl (by kernel_rfl) (by kernel_rfl) (by kernel_rfl) (fun _ _ _ h => h) (Or.inl ⟨by rfl, ?_⟩) (by assumption) ?_
          rotate_left
          · intro w2 hSw
            (try dsimp only at hSw)
            (try (obtain ⟨hs1, hs2, hs3⟩ := hSw))
            go_simp
            (try (with_reducible rfl))
          (try simp only [Act.put, List.getElem_toArray, List.getElem_cons_zero, List.getElem_cons_succ, List.setIfInBounds_toArray, List.set_cons_zero, List.set_cons_succ])
          refine wpAnyH_take (i := 15) (v := ?_) rfl (by kernel_rfl) (by kernel_rfl) (by kernel_rfl) (fun _ _ _ h => h) (Or.inl ⟨by rfl, ?_⟩) (by assumption) ?_
          rotate_left
          · intro w2 hSw
            (try dsimp only at hSw)
            (try (obtain ⟨hs1, hs2, hs3⟩ := hSw))
            go_simp
            (try (with_reducible rfl))
          (try simp only [Act.put, List.getElem_toArray, List.getElem_cons_zero, List.getElem_cons_succ, List.setIfInBounds_toArray, List.set_cons_zero, List.set_cons_succ])
          refine wpAnyH_ready (rs := [16]) (by decide +kernel) (by simp) ?_
          refine AllReadyH.cons rfl (fun K hK => ?_) (AllReadyH.nil)
          (try simp only [List.getElem_toArray, List.getElem_cons_zero, List.getElem_cons_succ])
          (go_simp)
          refine hK.out _ _ ?_ (fun hHeld => ?_)
          · exact trivial
          clear hK K
          (try simp only [Act.put, List.getElem_toArray, List.getElem_cons_zero, List.getElem_cons_succ, List.setIfInBounds_toArray, List.set_cons_zero, List.set_cons_succ])
          refine wpAnyH_done (by kernel_rfl) ?_ _
          (try dsimp only)
          generalize hWF : World.setCell (World.setCell (World.setCell _ _ _) _ _) _ _ = wf
          have hr := HK.out.r
          have hz := HK.out.z
          have RF : Row wf w.heap.size #[.int .i64 k, .slice a8 pl c8, .int .i64 sp, .int .i64 p0, .int .i64 p1, .int .i64 p2, .int .i64 p3, .slice ca cl cc, .int .i64 wd, .int .i64 cp, .int .i64 jn, .int .i64 mt, .slice a15 dl c15, .int .i64 ph, .int .i64 fn, .int .i64 m.a, .int .i64 m.b, .int .i64 m.c, .int .i64 m.d, .int .i64 m.x, .int .i64 m.y, .slice a11 bl c11] := by rw [← hWF]; exact (by apply cast; (case h => (repeat (first | (with_reducible assumption) | (with_reducible apply Row.at; (simp; done)) | (with_reducible apply Row.alloc) | (with_reducible apply Row.drew) | (with_reducible apply Row.drewN) | (with_reducible apply Row.set) | ((with_reducible apply Row.other); (case hp => first | (simp; done) | (simp; omega) | omega))))); (case e => rfl))
          have RZ : Row wf (w.heap.size + 1) #[.int .i64 0, .slice none 0 0, .int .i64 0, .int .i64 0, .int .i64 0, .int .i64 0, .int .i64 0, .slice none 0 0, .int .i64 0, .int .i64 0, .int .i64 0, .int .i64 0, .slice none 0 0, .int .i64 0, .int .i64 0, .int .i64 0, .int .i64 0, .int .i64 0, .int .i64 0, .int .i64 0, .int .i64 0, .slice none 0 0] := by rw [← hWF]; exact (by apply cast; (case h => (repeat (first | (with_reducible assumption) | (with_reducible apply Row.at; (simp; done)) | (with_reducible apply Row.alloc) | (with_reducible apply Row.drew) | (with_reducible apply Row.drewN) | (with_reducible apply Row.set) | ((with_reducible apply Row.other); (case hp => first | (simp; done) | (simp; omega) | omega))))); (case e => rfl))
          have hcf : Chg [w.heap.size] wc wf := by rw [← hWF]; exact (((Chg.refl [w.heap.size] wc).setCell (Or.inl (by simp)) _).setCell (Or.inl (by simp)) _).setCell (Or.inl (by simp)) _
          clear hWF hHeld
          go_wp2
          go_meet
          case rel => exact Lib.hid ⟨_, _, _, _, _, _, cloned_mk HPN.out HOwa.out (fun g hg => by have h1 := HFwa.out g hg; have h2 : W0.heap.size ≤ g := h1.1; exact ⟨by omega, h1.2⟩) HOwb.out HFwb.out HOwc.out HFwc.out ub uc hcf Uwc.out (by have h3 : W0.heap.size ≤ wa.heap.size := ua.size; omega) RF RZ⟩
      · skip
        (try simp only [List.getElem_toArray, List.getElem_cons_zero, List.getElem_cons_succ])
        (go_simp)
        refine hK.out _ _ ?_ (fun hHeld => ?_)
        · exact trivial
        clear hK K
        (try simp only [Act.put, List.getElem_toArray, List.getElem_cons_zero, List.getElem_cons_succ, List.setIfInBounds_toArray, List.set_cons_zero, List.set_cons_succ])
        refine wpAnyH_ready (rs := [1]) (by decide +kernel) (by simp) ?_
        refine AllReadyH.cons rfl (fun K hK => ?_) (AllReadyH.nil)
        (try simp only [List.getElem_toArray, List.getElem_cons_zero, List.getElem_cons_succ])
        (go_simp)
        refine hK.out _ _ ?_ (fun hHeld => ?_)
        · exact trivial
        clear hK K
        (try simp only [Act.put, List.getElem_toArray, List.getElem_cons_zero, List.getElem_cons_succ, List.setIfInBounds_toArray, List.set_cons_zero, List.set_cons_succ])
        refine wpAnyH_ready (rs := [2]) (by decide +kernel) (by simp) ?_
        refine AllReadyH.cons rfl (fun K hK => ?_) (AllReadyH.nil)
        (try simp only [List.getElem_toArray, List.getElem_cons_zero, List.getElem_cons_succ])
        (go_simp; go_at_call 60; (with_reducible refine (cloneSegs _ pl _ _ (HP.out.up (by (repeat' (first | (with_reducible exact Up.refl _) | (with_reducible assumption) | (with_reducible refine Up.alloc ?_ _) | (with_reducible refine Up.drew ?_) | (with_reducible refine Up.drewN ?_ _) | (with_reducible refine Up.setCell ?_ ?_ _) | (with_reducible refine Up.call ?_ (by with_reducible assumption)) | go_size)))) (PathM.segCells_one l) (by omega)).mono ?_); rintro E wa ⟨v8, rfl, howa, hfwa, ua⟩; (obtain ⟨a8, c8, rfl⟩ := owned_val howa); have HOwa := Lib.hid howa; have HFwa := Lib.hid hfwa; have zwa := ua.size; (try simp at zwa); have HK := Lib.hid (HK.out.up ua); (obtain ⟨cc1, cc12, cc21, fr1, fr12, fr21, lb⟩ := HK.out.cells); have Uwa := Lib.hid (show Up w wa by (repeat' (first | (with_reducible exact Up.refl _) | (with_reducible assumption) | (with_reducible refine Up.alloc ?_ _) | (with_reducible refine Up.drew ?_) | (with_reducible refine Up.drewN ?_ _) | (with_reducible refine Up.setCell ?_ ?_ _) | (with_reducible refine Up.call ?_ (by with_reducible assumption)) | go_size))); clear howa hfwa; (try dsimp only))
        refine hK.out _ _ ?_ (fun hHeld => ?_)
        · exact trivial
        clear hK K
        (try simp only [Act.put, List.getElem_toArray, List.getElem_cons_zero, List.getElem_cons_succ, List.setIfInBounds_toArray, List.set_cons_zero, List.set_cons_succ])
        refine wpAnyH_take (i := 10) (v := ?_) rfl (by kernel_rfl) (by kernel_rfl) (by kernel_rfl) (fun _ _ _ h => h) (Or.inl ⟨by rfl, ?_⟩) (by assumption) ?_
        rotate_left
        · intro w2 hSw
          (try dsimp only at hSw)
          (try (obtain ⟨hs1, hs2, hs3⟩ := hSw))
          go_simp
          (try (with_reducible rfl))
        (try simp only [Act.put, List.getElem_toArray, List.getElem_cons_zero, List.getElem_cons_succ, List.setIfInBounds_toArray, List.set_cons_zero, List.set_cons_succ])
        refine wpAnyH_ready (rs := [5]) (by decide +kernel) (by simp) ?_
        refine AllReadyH.cons rfl (fun K hK => ?_) (AllReadyH.nil)
        (try simp only [List.getElem_toArray, List.getElem_cons_zero, List.getElem_cons_succ])
        (go_simp; go_at_call 61; (with_reducible refine (cloneBytes _ bl _ _ (HB.out.up (by (repeat' (first | (with_reducible exact Up.refl _) | (with_reducible assumption) | (with_reducible refine Up.alloc ?_ _) | (with_reducible refine Up.drew ?_) | (with_reducible refine Up.drewN ?_ _) | (with_reducible refine Up.setCell ?_ ?_ _) | (with_reducible refine Up.call ?_ (by with_reducible assumption)) | go_size)))) (ints_oneCell _ _) (by omega)).mono ?_); rintro E wb ⟨v11, rfl, howb, hfwb, ub⟩; (obtain ⟨a11, c11, rfl⟩ := owned_val howb); have HOwb := Lib.hid howb; have HFwb := Lib.hid hfwb; have zwb := ub.size; (try simp at zwb); have HK := Lib.hid (HK.out.up ub); (obtain ⟨cc1, cc12, cc21, fr1, fr12, fr21, lb⟩ := HK.out.cells); have Uwb := Lib.hid (show Up w wb by (repeat' (first | (with_reducible exact Up.refl _) | (with_reducible assumption) | (with_reducible refine Up.alloc ?_ _) | (with_reducible refine Up.drew ?_) | (with_reducible refine Up.drewN ?_ _) | (with_reducible refine Up.setCell ?_ ?_ _) | (with_reducible refine Up.call ?_ (by with_reducible assumption)) | go_size))); clear howb hfwb; (try dsimp only))
        refine hK.out _ _ ?_ (fun hHeld => ?_)
        · exact trivial
        clear hK K
        (try simp only [Act.put, List.getElem_toArray, List.getElem_cons_zero, List.getElem_cons_succ, List.setIfInBounds_toArray, List.set_cons_zero, List.set_cons_succ])
        refine wpAnyH_ready (rs := [9]) (by decide +kernel) (by simp) ?_
        refine AllReadyH.cons rfl (fun K hK => ?_) (AllReadyH.nil)
        (try simp only [List.getElem_toArray, List.getElem_cons_zero, List.getElem_cons_succ])
        (go_simp; go_at_call 25; (with_reducible refine (cloneInts _ dl _ _ (HD.out.up (by (repeat' (first | (with_reducible exact Up.refl _) | (with_reducible assumption) | (with_reducible refine Up.alloc ?_ _) | (with_reducible refine Up.drew ?_) | (with_reducible refine Up.drewN ?_ _) | (with_reducible refine Up.setCell ?_ ?_ _) | (with_reducible refine Up.call ?_ (by with_reducible assumption)) | go_size)))) (ints_oneCell _ _) (by omega)).mono ?_); rintro E wc ⟨v15, rfl, howc, hfwc, uc⟩; (obtain ⟨a15, c15, rfl⟩ := owned_val howc); have HOwc := Lib.hid howc; have HFwc := Lib.hid hfwc; have zwc := uc.size; (try simp at zwc); have HK := Lib.hid (HK.out.up uc); (obtain ⟨cc1, cc12, cc21, fr1, fr12, fr21, lb⟩ := HK.out.cells); have Uwc := Lib.hid (show Up w wc by (repeat' (first | (with_reducible exact Up.refl _) | (with_reducible assumption) | (with_reducible refine Up.alloc ?_ _) | (with_reducible refine Up.drew ?_) | (with_reducible refine Up.drewN ?_ _) | (with_reducible refine Up.setCell ?_ ?_ _) | (with_reducible refine Up.call ?_ (by with_reducible assumption)) | go_size))); clear howc hfwc; (try dsimp only))
        refine hK.out _ _ ?_ (fun hHeld => ?_)
        · exact trivial
        clear hK K
        (try simp only [Act.put, List.getElem_toArray, List.getElem_cons_zero, List.getElem_cons_succ, List.setIfInBounds_toArray, List.set_cons_zero, List.set_cons_succ])
        refine wpAnyH_ready (rs := [11]) (by decide +kernel) (by simp) ?_
        refine AllReadyH.cons rfl (fun K hK => ?_) (AllReadyH.nil)
        (try simp only [List.getElem_toArray, List.getElem_cons_zero, List.getElem_cons_succ])
        (go_simp)
        refine hK.out _ _ ?_ (fun hHeld => ?_)
        · exact trivial
        clear hK K
        (try simp only [Act.put, List.getElem_toArray, List.getElem_cons_zero, List.getElem_cons_succ, List.setIfInBounds_toArray, List.set_cons_zero, List.set_cons_succ])
        refine wpAnyH_take (i := 12) (v := ?_) rfl (by kernel_rfl) (by kernel_rfl) (by kernel_rfl) (fun _ _ _ h => h) (Or.inl ⟨by rfl, ?_⟩) (by assumption) ?_
        rotate_left
        · intro w2 hSw
          (try dsimp only at hSw)
          (try (obtain ⟨hs1, hs2, hs3⟩ := hSw))
          go_simp
          (try (with_reducible rfl))
        (try simp only [Act.put, List.getElem_toArray, List.getElem_cons_zero, List.getElem_cons_succ, List.setIfInBounds_toArray, List.set_cons_zero, List.set_cons_succ])
        refine wpAnyH_ready (rs := [13]) (by decide +kernel) (by simp) ?_
        refine AllReadyH.cons rfl (fun K hK => ?_) (AllReadyH.nil)
        (try simp only [List.getElem_toArray, List.getElem_cons_zero, List.getElem_cons_succ])
        (go_simp)
        refine hK.out _ _ ?_ (fun hHeld => ?_)
        · exact trivial
        clear hK K
        (try simp only [Act.put, List.getElem_toArray, List.getElem_cons_zero, List.getElem_cons_succ, List.setIfInBounds_toArray, List.set_cons_zero, List.set_cons_succ])
        refine wpAnyH_take (i := 14) (v := ?_) rfl (by kernel_rfl) (by kernel_rfl) (by kernel_rfl) (fun _ _ _ h => h) (Or.inl ⟨by rfl, ?_⟩) (by assumption) ?_
        rotate_left
        · intro w2 hSw
          (try dsimp only at hSw)
          (try (obtain ⟨hs1, hs2, hs3⟩ := hSw))
          go_simp
          (try (with_reducible rfl))
        (try simp only [Act.put, List.getElem_toArray, List.getElem_cons_zero, List.getElem_cons_succ, List.setIfInBounds_toArray, List.set_cons_zero, List.set_cons_succ])
        refine wpAnyH_take (i := 15) (v := ?_) rfl (by kernel_rfl) (by kernel_rfl) (by kernel_rfl) (fun _ _ _ h => h) (Or.inl ⟨by rfl, ?_⟩) (by assumption) ?_
        rotate_left
        · intro w2 hSw
          (try dsimp only at hSw)
          (try (obtain ⟨hs1, hs2, hs3⟩ := hSw))
          go_simp
          (try (with_reducible rfl))
        (try simp only [Act.put, List.getElem_toArray, List.getElem_cons_zero, List.getElem_cons_succ, List.setIfInBounds_toArray, List.set_cons_zero, List.set_cons_succ])
        refine wpAnyH_ready (rs := [16]) (by decide +kernel) (by simp) ?_
        refine AllReadyH.cons rfl (fun K hK => ?_) (AllReadyH.nil)
        (try simp only [List.getElem_toArray, List.getElem_cons_zero, List.getElem_cons_succ])
        (go_simp)
        refine hK.out _ _ ?_ (fun hHeld => ?_)
        · exact trivial
        clear hK K
        (try simp only [Act.put, List.getElem_toArray, List.getElem_cons_zero, List.getElem_cons_succ, List.setIfInBounds_toArray, List.set_cons_zero, List.set_cons_succ])
        refine wpAnyH_done (by kernel_rfl) ?_ _
        (try dsimp only)
        generalize hWF : World.setCell (World.setCell (World.setCell _ _ _) _ _) _ _ = wf
        have hr := HK.out.r
        have hz := HK.out.z
        have RF : Row wf w.heap.size #[.int .i64 k, .slice a8 pl c8, .int .i64 sp, .int .i64 p0, .int .i64 p1, .int .i64 p2, .int .i64 p3, .slice ca cl cc, .int .i64 wd, .int .i64 cp, .int .i64 jn, .int .i64 mt, .slice a15 dl c15, .int .i64 ph, .int .i64 fn, .int .i64 m.a, .int .i64 m.b, .int .i64 m.c, .int .i64 m.d, .int .i64 m.x, .int .i64 m.y, .slice a11 bl c11] := by rw [← hWF]; exact (by apply cast; (case h => (repeat (first | (with_reducible assumption) | (with_reducible apply Row.at; (simp; done)) | (with_reducible apply Row.alloc) | (with_reducible apply Row.drew) | (with_reducible apply Row.drewN) | (with_reducible apply Row.set) | ((with_reducible apply Row.other); (case hp => first | (simp; done) | (simp; omega) | omega))))); (case e => rfl))
        have RZ : Row wf (w.heap.size + 1) #[.int .i64 0, .slice none 0 0, .int .i64 0, .int .i64 0, .int .i64 0, .int .i64 0, .int .i64 0, .slice none 0 0, .int .i64 0, .int .i64 0, .int .i64 0, .int .i64 0, .slice none 0 0, .int .i64 0, .int .i64 0, .int .i64 0, .int .i64 0, .int .i64 0, .int .i64 0, .int .i64 0, .int .i64 0, .slice none 0 0] := by rw [← hWF]; exact (by apply cast; (case h => (repeat (first | (with_reducible assumption) | (with_reducible apply Row.at; (simp; done)) | (with_reducible apply Row.alloc) | (with_reducible apply Row.drew) | (with_reducible apply Row.drewN) | (with_reducible apply Row.set) | ((with_reducible apply Row.other); (case hp => first | (simp; done) | (simp; omega) | omega))))); (case e => rfl))
        have hcf : Chg [w.heap.size] wc wf := by rw [← hWF]; exact (((Chg.refl [w.heap.size] wc).setCell (Or.inl (by simp)) _).setCell (Or.inl (by simp)) _).setCell (Or.inl (by simp)) _
        clear hWF hHeld
        go_wp2
        go_meet
        case rel => exact Lib.hid ⟨_, _, _, _, _, _, cloned_mk HPN.out HOwa.out (fun g hg => by have h1 := HFwa.out g hg; have h2 : W0.heap.size ≤ g := h1.1; exact ⟨by omega, h1.2⟩) HOwb.out HFwb.out HOwc.out HFwc.out ub uc hcf Uwc.out (by have h3 : W0.heap.size ≤ wa.heap.size := ua.size; omega) RF RZ⟩
    · skip
      (try simp only [List.getElem_toArray, List.getElem_cons_zero, List.getElem_cons_succ])
      (go_simp)
      refine hK.out _ _ ?_ (fun hHeld => ?_)
      · exact trivial
      clear hK K
      (try simp only [Act.put, List.getElem_toArray, List.getElem_cons_zero, List.getElem_cons_succ, List.setIfInBounds_toArray, List.set_cons_zero, List.set_cons_succ])
      refine wpAnyH_ready (rs := [1, 4]) (by decide +kernel) (by simp) ?_
      refine AllReadyH.cons rfl (fun K hK => ?_) (AllReadyH.cons rfl (fun K hK => ?_) (AllReadyH.nil))
      · skip
        (try simp only [List.getElem_toArray, List.getElem_cons_zero, List.getElem_cons_succ])
        (go_simp)
        refine hK.out _ _ ?_ (fun hHeld => ?_)
        · exact trivial
        clear hK K
        (try simp only [Act.put, List.getElem_toArray, List.getElem_cons_zero, List.getElem_cons_succ, List.setIfInBounds_toArray, List.set_cons_zero, List.set_cons_succ])
        refine wpAnyH_ready (rs := [2, 4]) (by decide +kernel) (by simp) ?_
        refine AllReadyH.cons rfl (fun K hK => ?_) (AllReadyH.cons rfl (fun K hK => ?_) (AllReadyH.nil))
        · skip
          (try simp only [List.getElem_toArray, List.getElem_cons_zero, List.getElem_cons_succ])
          (go_simp; go_at_call 60; (with_reducible refine (cloneSegs _ pl _ _ (HP.out.up (by (repeat' (first | (with_reducible exact Up.refl _) | (with_reducible assumption) | (with_reducible refine Up.alloc ?_ _) | (with_reducible refine Up.drew ?_) | (with_reducible refine Up.drewN ?_ _) | (with_reducible refine Up.setCell ?_ ?_ _) | (with_reducible refine Up.call ?_ (by with_reducible assumption)) | go_size)))) (PathM.segCells_one l) (by omega)).mono ?_); rintro E wa ⟨v8, rfl, howa, hfwa, ua⟩; (obtain ⟨a8, c8, rfl⟩ := owned_val howa); have HOwa := Lib.hid howa; have HFwa := Lib.hid hfwa; have zwa := ua.size; (try simp at zwa); have HK := Lib.hid (HK.out.up ua); (obtain ⟨cc1, cc12, cc21, fr1, fr12, fr21, lb⟩ := HK.out.cells); have Uwa := Lib.hid (show Up w wa by (repeat' (first | (with_reducible exact Up.refl _) | (with_reducible assumption) | (with_reducible refine Up.alloc ?_ _) | (with_reducible refine Up.drew ?_) | (with_reducible refine Up.drewN ?_ _) | (with_reducible refine Up.setCell ?_ ?_ _) | (with_reducible refine Up.call ?_ (by with_reducible assumption)) | go_size))); clear howa hfwa; (try dsimp only))
          refine hK.out _ _ ?_ (fun hHeld => ?_)
          · exact trivial
          clear hK K
          (try simp only [Act.put, List.getElem_toArray, List.getElem_cons_zero, List.getElem_cons_succ, List.setIfInBounds_toArray, List.set_cons_zero, List.set_cons_succ])
          refine wpAnyH_ready (rs := [4]) (by decide +kernel) (by simp) ?_
          refine AllReadyH.cons rfl (fun K hK => ?_) (AllReadyH.nil)
          (try simp only [List.getElem_toArray, List.getElem_cons_zero, List.getElem_cons_succ])
          (go_simp)
          refine hK.out _ _ ?_ (fun hHeld => ?_)
          · exact trivial
          clear hK K
          (try simp only [Act.put, List.getElem_toArray, List.getElem_cons_zero, List.getElem_cons_succ, List.setIfInBounds_toArray, List.set_cons_zero, List.set_cons_succ])
          refine wpAnyH_take (i := 10) (v := ?_) rfl (by kernel_rfl) (by kernel_rfl) (by kernel_rfl) (fun _ _ _ h => h) (Or.inl ⟨by rfl, ?_⟩) (by assumption) ?_
          rotate_left
          · intro w2 hSw
            (try dsimp only at hSw)
            (try (obtain ⟨hs1, hs2, hs3⟩ := hSw))
            go_simp
            (try (with_reducible rfl))
          (try simp only [Act.put, List.getElem_toArray, List.getElem_cons_zero, List.getElem_cons_succ, List.setIfInBounds_toArray, List.set_cons_zero, List.set_cons_succ])
          refine wpAnyH_ready (rs := [5]) (by decide +kernel) (by simp) ?_
          refine AllReadyH.cons rfl (fun K hK => ?_) (AllReadyH.nil)
          (try simp only [List.getElem_toArray, List.getElem_cons_zero, List.getElem_cons_succ])
          (go_simp; go_at_call 61; (with_reducible refine (cloneBytes _ bl _ _ (HB.out.up (by (repeat' (first | (with_reducible exact Up.refl _) | (with_reducible assumption) | (with_reducible refine Up.alloc ?_ _) | (with_reducible refine Up.drew ?_) | (with_reducible refine Up.drewN ?_ _) | (with_reducible refine Up.setCell ?_ ?_ _) | (with_reducible refine Up.call ?_ (by with_reducible assumption)) | go_size)))) (ints_oneCell _ _) (by omega)).mono ?_); rintro E wb ⟨v11, rfl, howb, hfwb, ub⟩; (obtain ⟨a11, c11, rfl⟩ := owned_val howb); have HOwb := Lib.hid howb; have HFwb := Lib.hid hfwb; have zwb := ub.size; (try simp at zwb); have HK := Lib.hid (HK.out.up ub); (obtain ⟨cc1, cc12, cc21, fr1, fr12, fr21, lb⟩ := HK.out.cells); have Uwb := Lib.hid (show Up w wb by (repeat' (first | (with_reducible exact Up.refl _) | (with_reducible assumption) | (with_reducible refine Up.alloc ?_ _) | (with_reducible refine Up.drew ?_) | (with_reducible refine Up.drewN ?_ _) | (with_reducible refine Up.setCell ?_ ?_ _) | (with_reducible refine Up.call ?_ (by with_reducible assumption)) | go_size))); clear howb hfwb; (try dsimp only))
          refine hK.out _ _ ?_ (fun hHeld => ?_)
          · exact trivial
          clear hK K
          (try simp only [Act.put, List.getElem_toArray, List.getElem_cons_zero, List.getElem_cons_succ, List.setIfInBounds_toArray, List.set_cons_zero, List.set_cons_succ])
          refine wpAnyH_ready (rs := [9]) (by decide +kernel) (by simp) ?_
          refine AllReadyH.cons rfl (fun K hK => ?_) (AllReadyH.nil)
          (try simp only [List.getElem_toArray, List.getElem_cons_zero, List.getElem_cons_succ])
          (go_simp; go_at_call 25; (with_reducible refine (cloneInts _ dl _ _ (HD.out.up (by (repeat' (first | (with_reducible exact Up.refl _) | (with_reducible assumption) | (with_reducible refine Up.alloc ?_ _) | (with_reducible refine Up.drew ?_) | (with_reducible refine Up.drewN ?_ _) | (with_reducible refine Up.setCell ?_ ?_ _) | (with_reducible refine Up.call ?_ (by with_reducible assumption)) | go_size)))) (ints_oneCell _ _) (by omega)).mono ?_); rintro E wc ⟨v15, rfl, howc, hfwc, uc⟩; (obtain ⟨a15, c15, rfl⟩ := owned_val howc); have HOwc := Lib.hid howc; have HFwc := Lib.hid hfwc; have zwc := uc.size; (try simp at zwc); have HK := Lib.hid (HK.out.up uc); (obtain ⟨cc1, cc12, cc21, fr1, fr12, fr21, lb⟩ := HK.out.cells); have Uwc := Lib.hid (show Up w wc by (repeat' (first | (with_reducible exact Up.refl _) | (with_reducible assumption) | (with_reducible refine Up.alloc ?_ _) | (with_reducible refine Up.drew ?_) | (with_reducible refine Up.drewN ?_ _) | (with_reducible refine Up.setCell ?_ ?_ _) | (with_reducible refine Up.call ?_ (by with_reducible assumption)) | go_size))); clear howc hfwc; (try dsimp only))
          refine hK.out _ _ ?_ (fun hHeld => ?_)
          · exact trivial
          clear hK K
          (try simp only [Act.put, List.getElem_toArray, List.getElem_cons_zero, List.getElem_cons_succ, List.setIfInBounds_toArray, List.set_cons_zero, List.set_cons_succ])
          refine wpAnyH_ready (rs := [11]) (by decide +kernel) (by simp) ?_
          refine AllReadyH.cons rfl (fun K hK => ?_) (AllReadyH.nil)
          (try simp only [List.getElem_toArray, List.getElem_cons_zero, List.getElem_cons_succ])
          (go_simp)
          refine hK.out _ _ ?_ (fun hHeld => ?_)
          · exact trivial
          clear hK K
          (try simp only [Act.put, List.getElem_toArray, List.getElem_cons_zero, List.getElem_cons_succ, List.setIfInBounds_toArray, List.set_cons_zero, List.set_cons_succ])
          refine wpAnyH_take (i := 12) (v := ?_) rfl (by kernel_rfl) (by kernel_rfl) (by kernel_rfl) (fun _ _ _ h => h) (Or.inl ⟨by rfl, ?_⟩) (by assumption) ?_
          rotate_left
          · intro w2 hSw
            (try dsimp only at hSw)
            (try (obtain ⟨hs1, hs2, hs3⟩ := hSw))
            go_simp
            (try (with_reducible rfl))
          (try simp only [Act.put, List.getElem_toArray, List.getElem_cons_zero, List.getElem_cons_succ, List.setIfInBounds_toArray, List.set_cons_zero, List.set_cons_succ])
          refine wpAnyH_ready (rs := [13]) (by decide +kernel) (by simp) ?_
          refine AllReadyH.cons rfl (fun K hK => ?_) (AllReadyH.nil)
          (try simp only [List.getElem_toArray, List.getElem_cons_zero, List.getElem_cons_succ])
          (go_simp)
          refine hK.out _ _ ?_ (fun hHeld => ?_)
          · exact trivial
          clear hK K
          (try simp only [Act.put, List.getElem_toArray, List.getElem_cons_zero, List.getElem_cons_succ, List.setIfInBounds_toArray, List.set_cons_zero, List.set_cons_succ])
          refine wpAnyH_take (i := 14) (v := ?_) rfl (by kernel_rfl) (by kernel_rfl) (by kernel_rfl) (fun _ _ _ h => h) (Or.inl ⟨by rfl, ?_⟩) (by assumption) ?_
          rotate_left
          · intro w2 hSw
            (try dsimp only at hSw)
            (try (obtain ⟨hs1, hs2, hs3⟩ := hSw))
            go_simp
            (try (with_reducible rfl))
          (try simp only [Act.put, List.getElem_toArray, List.getElem_cons_zero, List.getElem_cons_succ, List.setIfInBounds_toArray, List.set_cons_zero, List.set_cons_succ])
          refine wpAnyH_take (i := 15) (v := ?_) rfl (by kernel_rfl) (by kernel_rfl) (by kernel_rfl) (fun _ _ _ h => h) (Or.inl ⟨by rfl, ?_⟩) (by assumption) ?_
          rotate_left
          · intro w2 hSw
            (try dsimp only at hSw)
            (try (obtain ⟨hs1, hs2, hs3⟩ := hSw))
            go_simp
            (try (with_reducible rfl))
          (try simp only [Act.put, List.getElem_toArray, List.getElem_cons_zero, List.getElem_cons_succ, List.setIfInBounds_toArray, List.set_cons_zero, List.set_cons_succ])
          refine wpAnyH_ready (rs := [16]) (by decide +kernel) (by simp) ?_
          refine AllReadyH.cons rfl (fun K hK => ?_) (AllReadyH.nil)
          (try simp only [List.getElem_toArray, List.getElem_cons_zero, List.getElem_cons_succ])
          (go_simp)
          refine hK.out _ _ ?_ (fun hHeld => ?_)
          · exact trivial
          clear hK K
          (try simp only [Act.put, List.getElem_toArray, List.getElem_cons_zero, List.getElem_cons_succ, List.setIfInBounds_toArray, List.set_cons_zero, List.set_cons_succ])
          refine wpAnyH_done (by kernel_rfl) ?_ _
          (try dsimp only)
          generalize hWF : World.setCell (World.setCell (World.setCell _ _ _) _ _) _ _ = wf
          have hr := HK.out.r
          have hz := HK.out.z
          have RF : Row wf w.heap.size #[.int .i64 k, .slice a8 pl c8, .int .i64 sp, .int .i64 p0, .int .i64 p1, .int .i64 p2, .int .i64 p3, .slice ca cl cc, .int .i64 wd, .int .i64 cp, .int .i64 jn, .int .i64 mt, .slice a15 dl c15, .int .i64 ph, .int .i64 fn, .int .i64 m.a, .int .i64 m.b, .int .i64 m.c, .int .i64 m.d, .int .i64 m.x, .int .i64 m.y, .slice a11 bl c11] := by rw [← hWF]; exact (by apply cast; (case h => (repeat (first | (with_reducible assumption) | (with_reducible apply Row.at; (simp; done)) | (with_reducible apply Row.alloc) | (with_reducible apply Row.drew) | (with_reducible apply Row.drewN) | (with_reducible apply Row.set) | ((with_reducible apply Row.other); (case hp => first | (simp; done) | (simp; omega) | omega))))); (case e => rfl))
          have RZ : Row wf (w.heap.size + 1) #[.int .i64 0, .slice none 0 0, .int .i64 0, .int .i64 0, .int .i64 0, .int .i64 0, .int .i64 0, .slice none 0 0, .int .i64 0, .int .i64 0, .int .i64 0, .int .i64 0, .slice none 0 0, .int .i64 0, .int .i64 0, .int .i64 0, .int .i64 0, .int .i64 0, .int .i64 0, .int .i64 0, .int .i64 0, .slice none 0 0] := by rw [← hWF]; exact (by apply cast; (case h => (repeat (first | (with_reducible assumption) | (with_reducible apply Row.at; (simp; done)) | (with_reducible apply Row.alloc) | (with_reducible apply Row.drew) | (with_reducible apply Row.drewN) | (with_reducible apply Row.set) | ((with_reducible apply Row.other); (case hp => first | (simp; done) | (simp; omega) | omega))))); (case e => rfl))
          have hcf : Chg [w.heap.size] wc wf := by rw [← hWF]; exact (((Chg.refl [w.heap.size] wc).setCell (Or.inl (by simp)) _).setCell (Or.inl (by simp)) _).setCell (Or.inl (by simp)) _
          clear hWF hHeld
          go_wp2
          go_meet
          case rel => exact Lib.hid ⟨_, _, _, _, _, _, cloned_mk HPN.out HOwa.out (fun g hg => by have h1 := HFwa.out g hg; have h2 : W0.heap.size ≤ g := h1.1; exact ⟨by omega, h1.2⟩) HOwb.out HFwb.out HOwc.out HFwc.out ub uc hcf Uwc.out (by have h3 : W0.heap.size ≤ wa.heap.size := ua.size; omega) RF RZ⟩
        · skip
          (try simp only [List.getElem_toArray, List.getElem_cons_zero, List.getElem_cons_succ])
          (go_simp)
          refine hK.out _ _ ?_ (fun hHeld => ?_)
          · exact trivial
          clear hK K
          (try simp only [Act.put, List.getElem_toArray, List.getElem_cons_zero, List.getElem_cons_succ, List.setIfInBounds_toArray, List.set_cons_zero, List.set_cons_succ])
          refine wpAnyH_ready (rs := [2]) (by decide +kernel) (by simp) ?_
          refine AllReadyH.cons rfl (fun K hK => ?_) (AllReadyH.nil)
          (try simp only [List.getElem_toArray, List.getElem_cons_zero, List.getElem_cons_succ])
          (go_simp; go_at_call 60; (with_reducible refine (cloneSegs _ pl _ _ (HP.out.up (by (repeat' (first | (with_reducible exact Up.refl _) | (with_reducible assumption) | (with_reducible refine Up.alloc ?_ _) | (with_reducible refine Up.drew ?_) | (with_reducible refine Up.drewN ?_ _) | (with_reducible refine Up.setCell ?_ ?_ _) | (with_reducible refine Up.call ?_ (by with_reducible assumption)) | go_size)))) (PathM.segCells_one l) (by omega)).mono ?_); rintro E wa ⟨v8, rfl, howa, hfwa, ua⟩; (obtain ⟨a8, c8, rfl⟩ := owned_val howa); have HOwa := Lib.hid howa; have HFwa := Lib.hid hfwa; have zwa := ua.size; (try simp at zwa); have HK := Lib.hid (HK.out.up ua); (obtain ⟨cc1, cc12, cc21, fr1, fr12, fr21, lb⟩ := HK.out.cells); have Uwa := Lib.hid (show Up w wa by (repeat' (first | (with_reducible exact Up.refl _) | (with_reducible assumption) | (with_reducible refine Up.alloc ?_ _) | (with_reducible refine Up.drew ?_) | (with_reducible refine Up.drewN ?_ _) | (with_reducible refine Up.setCell ?_ ?_ _) | (with_reducible refine Up.call ?_ (by with_reducible assumption)) | go_size))); clear howa hfwa; (try dsimp only))
          refine hK.out _ _ ?_ (fun hHeld => ?_)
          · exact trivial
          clear hK K
          (try simp only [Act.put, List.getElem_toArray, List.getElem_cons_zero, List.getElem_cons_succ, List.setIfInBounds_toArray, List.set_cons_zero, List.set_cons_succ])
          refine wpAnyH_take (i := 10) (v := ?_) rfl (by kernel_rfl) (by kernel_rfl) (by kernel_rfl) (fun _ _ _ h => h) (Or.inl ⟨by rfl, ?_⟩) (by assumption) ?_
          rotate_left
          · intro w2 hSw
            (try dsimp only at hSw)
            (try (obtain ⟨hs1, hs2, hs3⟩ := hSw))
            go_simp
            (try (with_reducible rfl))
          (try simp only [Act.put, List.getElem_toArray, List.getElem_cons_zero, List.getElem_cons_succ, List.setIfInBounds_toArray, List.set_cons_zero, List.set_cons_succ])
          refine wpAnyH_ready (rs := [5]) (by decide +kernel) (by simp) ?_
          refine AllReadyH.cons rfl (fun K hK => ?_) (AllReadyH.nil)
          (try simp only [List.getElem_toArray, List.getElem_cons_zero, List.getElem_cons_succ])
          (go_simp; go_at_call 61; (with_reducible refine (cloneBytes _ bl _ _ (HB.out.up (by (repeat' (first | (with_reducible exact Up.refl _) | (with_reducible assumption) | (with_reducible refine Up.alloc ?_ _) | (with_reducible refine Up.drew ?_) | (with_reducible refine Up.drewN ?_ _) | (with_reducible refine Up.setCell ?_ ?_ _) | (with_reducible refine Up.call ?_ (by with_reducible assumption)) | go_size)))) (ints_oneCell _ _) (by omega)).mono ?_); rintro E wb ⟨v11, rfl, howb, hfwb, ub⟩; (obtain ⟨a11, c11, rfl⟩ := owned_val howb); have HOwb := Lib.hid howb; have HFwb := Lib.hid hfwb; have zwb := ub.size; (try simp at zwb); have HK := Lib.hid (HK.out.up ub); (obtain ⟨cc1, cc12, cc21, fr1, fr12, fr21, lb⟩ := HK.out.cells); have Uwb := Lib.hid (show Up w wb by (repeat' (first | (with_reducible exact Up.refl _) | (with_reducible assumption) | (with_reducible refine Up.alloc ?_ _) | (with_reducible refine Up.drew ?_) | (with_reducible refine Up.drewN ?_ _) | (with_reducible refine Up.setCell ?_ ?_ _) | (with_reducible refine Up.call ?_ (by with_reducible assumption)) | go_size))); clear howb hfwb; (try dsimp only))
          refine hK.out _ _ ?_ (fun hHeld => ?_)
          · exact trivial
          clear hK K
          (try simp only [Act.put, List.getElem_toArray, List.getElem_cons_zero, List.getElem_cons_succ, List.setIfInBounds_toArray, List.set_cons_zero, List.set_cons_succ])
          refine wpAnyH_ready (rs := [9]) (by decide +kernel) (by simp) ?_
          refine AllReadyH.cons rfl (fun K hK => ?_) (AllReadyH.nil)
          (try simp only [List.getElem_toArray, List.getElem_cons_zero, List.getElem_cons_succ])
          (go_simp; go_at_call 25; (with_reducible refine (cloneInts _ dl _ _ (HD.out.up (by (repeat' (first | (with_reducible exact Up.refl _) | (with_reducible assumption) | (with_reducible refine Up.alloc ?_ _) | (with_reducible refine Up.drew ?_) | (with_reducible refine Up.drewN ?_ _) | (with_reducible refine Up.setCell ?_ ?_ _) | (with_reducible refine Up.call ?_ (by with_reducible assumption)) | go_size)))) (ints_oneCell _ _) (by omega)).mono ?_); rintro E wc ⟨v15, rfl, howc, hfwc, uc⟩; (obtain ⟨a15, c15, rfl⟩ := owned_val howc); have HOwc := Lib.hid howc; have HFwc := Lib.hid hfwc; have zwc := uc.size; (try simp at zwc); have HK := Lib.hid (HK.out.up uc); (obtain ⟨cc1, cc12, cc21, fr1, fr12, fr21, lb⟩ := HK.out.cells); have Uwc := Lib.hid (show Up w wc by (repeat' (first | (with_reducible exact Up.refl _) | (with_reducible assumption) | (with_reducible refine Up.alloc ?_ _) | (with_reducible refine Up.drew ?_) | (with_reducible refine Up.drewN ?_ _) | (with_reducible refine Up.setCell ?_ ?_ _) | (with_reducible refine Up.call ?_ (by with_reducible assumption)) | go_size))); clear howc hfwc; (try dsimp only))
          refine hK.out _ _ ?_ (fun hHeld => ?_)
          · exact trivial
          clear hK K
          (try simp only [Act.put, List.getElem_toArray, List.getElem_cons_zero, List.getElem_cons_succ, List.setIfInBounds_toArray, List.set_cons_zero, List.set_cons_succ])
          refine wpAnyH_ready (rs := [11]) (by decide +kernel) (by simp) ?_
          refine AllReadyH.cons rfl (fun K hK => ?_) (AllReadyH.nil)
          (try simp only [List.getElem_toArray, List.getElem_cons_zero, List.getElem_cons_succ])
          (go_simp)
          refine hK.out _ _ ?_ (fun hHeld => ?_)
          · exact trivial
          clear hK K
          (try simp only [Act.put, List.getElem_toArray, List.getElem_cons_zero, List.getElem_cons_succ, List.setIfInBounds_toArray, List.set_cons_zero, List.set_cons_succ])
          refine wpAnyH_take (i := 12) (v := ?_) rfl (by kernel_rfl) (by kernel_rfl) (by kernel_rfl) (fun _ _ _ h => h) (Or.inl ⟨by rfl, ?_⟩) (by assumption) ?_
          rotate_left
          · intro w2 hSw
            (try dsimp only at hSw)
            (try (obtain ⟨hs1, hs2, hs3⟩ := hSw))
            go_simp
            (try (with_reducible rfl))
          (try simp only [Act.put, List.getElem_toArray, List.getElem_cons_zero, List.getElem_cons_succ, List.setIfInBounds_toArray, List.set_cons_zero, List.set_cons_succ])
          refine wpAnyH_ready (rs := [13]) (by decide +kernel) (by simp) ?_
          refine AllReadyH.cons rfl (fun K hK => ?_) (AllReadyH.nil)
          (try simp only [List.getElem_toArray, List.getElem_cons_zero, List.getElem_cons_succ])
          (go_simp)
          refine hK.out _ _ ?_ (fun hHeld => ?_)
          · exact trivial
          clear hK K
          (try simp only [Act.put, List.getElem_toArray, List.getElem_cons_zero, List.getElem_cons_succ, List.setIfInBounds_toArray, List.set_cons_zero, List.set_cons_succ])
          refine wpAnyH_take (i := 14) (v := ?_) rfl (by kernel_rfl) (by kernel_rfl) (by kernel_rfl) (fun _ _ _ h => h) (Or.inl ⟨by rfl, ?_⟩) (by assumption) ?_
          rotate_left
          · intro w2 hSw
            (try dsimp only at hSw)
            (try (obtain ⟨hs1, hs2, hs3⟩ := hSw))
            go_simp
            (try (with_reducible rfl))
          (try simp only [Act.put, List.getElem_toArray, List.getElem_cons_zero, List.getElem_cons_succ, List.setIfInBounds_toArray, List.set_cons_zero, List.set_cons_succ])
          refine wpAnyH_take (i := 15) (v := ?_) rfl (by kernel_rfl) (by kernel_rfl) (by kernel_rfl) (fun _ _ _ h => h) (Or.inl ⟨by rfl, ?_⟩) (by assumption) ?_
          rotate_left
          · intro w2 hSw
            (try dsimp only at hSw)
            (try (obtain ⟨hs1, hs2, hs3⟩ := hSw))
            go_simp
            (try (with_reducible rfl))
          (try simp only [Act.put, List.getElem_toArray, List.getElem_cons_zero, List.getElem_cons_succ, List.setIfInBounds_toArray, List.set_cons_zero, List.set_cons_succ])
          refine wpAnyH_ready (rs := [16]) (by decide +kernel) (by simp) ?_
          refine AllReadyH.cons rfl (fun K hK => ?_) (AllReadyH.nil)
          (try simp only [List.getElem_toArray, List.getElem_cons_zero, List.getElem_cons_succ])
          (go_simp)
          refine hK.out _ _ ?_ (fun hHeld => ?_)
          · exact trivial
          clear hK K
          (try simp only [Act.put, List.getElem_toArray, List.getElem_cons_zero, List.getElem_cons_succ, List.setIfInBounds_toArray, List.set_cons_zero, List.set_cons_succ])
          refine wpAnyH_done (by kernel_rfl) ?_ _
          (try dsimp only)
          generalize hWF : World.setCell (World.setCell (World.setCell _ _ _) _ _) _ _ = wf
          have hr := HK.out.r
          have hz := HK.out.z
          have RF : Row wf w.heap.size #[.int .i64 k, .slice a8 pl c8, .int .i64 sp, .int .i64 p0, .int .i64 p1, .int .i64 p2, .int .i64 p3, .slice ca cl cc, .int .i64 wd, .int .i64 cp, .int .i64 jn, .int .i64 mt, .slice a15 dl c15, .int .i64 ph, .int .i64 fn, .int .i64 m.a, .int .i64 m.b, .int .i64 m.c, .int .i64 m.d, .int .i64 m.x, .int .i64 m.y, .slice a11 bl c11] := by rw [← hWF]; exact (by apply cast; (case h => (repeat (first | (with_reducible assumption) | (with_reducible apply Row.at; (simp; done)) | (with_reducible apply Row.alloc) | (with_reducible apply Row.drew) | (with_reducible apply Row.drewN) | (with_reducible apply Row.set) | ((with_reducible apply Row.other); (case hp => first | (simp; done) | (simp; omega) | omega))))); (case e => rfl))
          have RZ : Row wf (w.heap.size + 1) #[.int .i64 0, .slice none 0 0, .int .i64 0, .int .i64 0, .int .i64 0, .int .i64 0, .int .i64 0, .slice none 0 0, .int .i64 0, .int .i64 0, .int .i64 0, .int .i64 0, .slice none 0 0, .int .i64 0, .int .i64 0, .int .i64 0, .int .i64 0, .int .i64 0, .int .i64 0, .int .i64 0, .int .i64 0, .slice none 0 0] := by rw [← hWF]; exact (by apply cast; (case h => (repeat (first | (with_reducible assumption) | (with_reducible apply Row.at; (simp; done)) | (with_reducible apply Row.alloc) | (with_reducible apply Row.drew) | (with_reducible apply Row.drewN) | (with_reducible apply Row.set) | ((with_reducible apply Row.other); (case hp => first | (simp; done) | (simp; omega) | omega))))); (case e => rfl))
          have hcf : Chg [w.heap.size] wc wf := by rw [← hWF]; exact (((Chg.refl [w.heap.size] wc).setCell (Or.inl (by simp)) _).setCell (Or.inl (by simp)) _).setCell (Or.inl (by simp)) _
          clear hWF hHeld
          go_wp2
          go_meet
          case rel => exact Lib.hid ⟨_, _, _, _, _, _, cloned_mk HPN.out HOwa.out (fun g hg => by have h1 := HFwa.out g hg; have h2 : W0.heap.size ≤ g := h1.1; exact ⟨by omega, h1.2⟩) HOwb.out HFwb.out HOwc.out HFwc.out ub uc hcf Uwc.out (by have h3 : W0.heap.size ≤ wa.heap.size := ua.size; omega) RF RZ⟩
      · skip
        (try simp only [List.getElem_toArray, List.getElem_cons_zero, List.getElem_cons_succ])
        (go_simp)
        refine hK.out _ _ ?_ (fun hHeld => ?_)
        · exact trivial
        clear hK K
        (try simp only [Act.put, List.getElem_toArray, List.getElem_cons_zero, List.getElem_cons_succ, List.setIfInBounds_toArray, List.set_cons_zero, List.set_cons_succ])
        refine wpAnyH_ready (rs := [1]) (by decide +kernel) (by simp) ?_
        refine AllReadyH.cons rfl (fun K hK => ?_) (AllReadyH.nil)
        (try simp only [List.getElem_toArray, List.getElem_cons_zero, List.getElem_cons_succ])
        (go_simp)
        refine hK.out _ _ ?_ (fun hHeld => ?_)
        · exact trivial
        clear hK K
        (try simp only [Act.put, List.getElem_toArray, List.getElem_cons_zero, List.getElem_cons_succ, List.setIfInBounds_toArray, List.set_cons_zero, List.set_cons_succ])
        refine wpAnyH_ready (rs := [2]) (by decide +kernel) (by simp) ?_
        refine AllReadyH.cons rfl (fun K hK => ?_) (AllReadyH.nil)
        (try simp only [List.getElem_toArray, List.getElem_cons_zero, List.getElem_cons_succ])
        (go_simp; go_at_call 60; (with_reducible refine (cloneSegs _ pl _ _ (HP.out.up (by (repeat' (first | (with_reducible exact Up.refl _) | (with_reducible assumption) | (with_reducible refine Up.alloc ?_ _) | (with_reducible refine Up.drew ?_) | (with_reducible refine Up.drewN ?_ _) | (with_reducible refine Up.setCell ?_ ?_ _) | (with_reducible refine Up.call ?_ (by with_reducible assumption)) | go_size)))) (PathM.segCells_one l) (by omega)).mono ?_); rintro E wa ⟨v8, rfl, howa, hfwa, ua⟩; (obtain ⟨a8, c8, rfl⟩ := owned_val howa); have HOwa := Lib.hid howa; have HFwa := Lib.hid hfwa; have zwa := ua.size; (try simp at zwa); have HK := Lib.hid (HK.out.up ua); (obtain ⟨cc1, cc12, cc21, fr1, fr12, fr21, lb⟩ := HK.out.cells); have Uwa := Lib.hid (show Up w wa by (repeat' (first | (with_reducible exact Up.refl _) | (with_reducible assumption) | (with_reducible refine Up.alloc ?_ _) | (with_reducible refine Up.drew ?_) | (with_reducible refine Up.drewN ?_ _) | (with_reducible refine Up.setCell ?_ ?_ _) | (with_reducible refine Up.call ?_ (by with_reducible assumption)) | go_size))); clear howa hfwa; (try dsimp only))
        refine hK.out _ _ ?_ (fun hHeld => ?_)
        · exact trivial
        clear hK K
        (try simp only [Act.put, List.getElem_toArray, List.getElem_cons_zero, List.getElem_cons_succ, List.setIfInBounds_toArray, List.set_cons_zero, List.set_cons_succ])
        refine wpAnyH_take (i := 10) (v := ?_) rfl (by kernel_rfl) (by kernel_rfl) (by kernel_rfl) (fun _ _ _ h => h) (Or.inl ⟨by rfl, ?_⟩) (by assumption) ?_
        rotate_left
        · intro w2 hSw
          (try dsimp only at hSw)
          (try (obtain ⟨hs1, hs2, hs3⟩ := hSw))
          go_simp
          (try (with_reducible rfl))
        (try simp only [Act.put, List.getElem_toArray, List.getElem_cons_zero, List.getElem_cons_succ, List.setIfInBounds_toArray, List.set_cons_zero, List.set_cons_succ])
        refine wpAnyH_ready (rs := [5]) (by decide +kernel) (by simp) ?_
        refine AllReadyH.cons rfl (fun K hK => ?_) (AllReadyH.nil)
        (try simp only [List.getElem_toArray, List.getElem_cons_zero, List.getElem_cons_succ])
        (go_simp; go_at_call 61; (with_reducible refine (cloneBytes _ bl _ _ (HB.out.up (by (repeat' (first | (with_reducible exact Up.refl _) | (with_reducible assumption) | (with_reducible refine Up.alloc ?_ _) | (with_reducible refine Up.drew ?_) | (with_reducible refine Up.drewN ?_ _) | (with_reducible refine Up.setCell ?_ ?_ _) | (with_reducible refine Up.call ?_ (by with_reducible assumption)) | go_size)))) (ints_oneCell _ _) (by omega)).mono ?_); rintro E wb ⟨v11, rfl, howb, hfwb, ub⟩; (obtain ⟨a11, c11, rfl⟩ := owned_val howb); have HOwb := Lib.hid howb; have HFwb := Lib.hid hfwb; have zwb := ub.size; (try simp at zwb); have HK := Lib.hid (HK.out.up ub); (obtain ⟨cc1, cc12, cc21, fr1, fr12, fr21, lb⟩ := HK.out.cells); have Uwb := Lib.hid (show Up w wb by (repeat' (first | (with_reducible exact Up.refl _) | (with_reducible assumption) | (with_reducible refine Up.alloc ?_ _) | (with_reducible refine Up.drew ?_) | (with_reducible refine Up.drewN ?_ _) | (with_reducible refine Up.setCell ?_ ?_ _) | (with_reducible refine Up.call ?_ (by with_reducible assumption)) | go_size))); clear howb hfwb; (try dsimp only))
        refine hK.out _ _ ?_ (fun hHeld => ?_)
        · exact trivial
        clear hK K
        (try simp only [Act.put, List.getElem_toArray, List.getElem_cons_zero, List.getElem_cons_succ, List.setIfInBounds_toArray, List.set_cons_zero, List.set_cons_succ])
        refine wpAnyH_ready (rs := [9]) (by decide +kernel) (by simp) ?_
        refine AllReadyH.cons rfl (fun K hK => ?_) (AllReadyH.nil)
        (try simp only [List.getElem_toArray, List.getElem_cons_zero, List.getElem_cons_succ])
        (go_simp; go_at_call 25; (with_reducible refine (cloneInts _ dl _ _ (HD.out.up (by (repeat' (first | (with_reducible exact Up.refl _) | (with_reducible assumption) | (with_reducible refine Up.alloc ?_ _) | (with_reducible refine Up.drew ?_) | (with_reducible refine Up.drewN ?_ _) | (with_reducible refine Up.setCell ?_ ?_ _) | (with_reducible refine Up.call ?_ (by with_reducible assumption)) | go_size)))) (ints_oneCell _ _) (by omega)).mono ?_); rintro E wc ⟨v15, rfl, howc, hfwc, uc⟩; (obtain ⟨a15, c15, rfl⟩ := owned_val howc); have HOwc := Lib.hid howc; have HFwc := Lib.hid hfwc; have zwc := uc.size; (try simp at zwc); have HK := Lib.hid (HK.out.up uc); (obtain ⟨cc1, cc12, cc21, fr1, fr12, fr21, lb⟩ := HK.out.cells); have Uwc := Lib.hid (show Up w wc by (repeat' (first | (with_reducible exact Up.refl _) | (with_reducible assumption) | (with_reducible refine Up.alloc ?_ _) | (with_reducible refine Up.drew ?_) | (with_reducible refine Up.drewN ?_ _) | (with_reducible refine Up.setCell ?_ ?_ _) | (with_reducible refine Up.call ?_ (by with_reducible assumption)) | go_size))); clear howc hfwc; (try dsimp only))
        refine hK.out _ _ ?_ (fun hHeld => ?_)
        · exact trivial
        clear hK K
        (try simp only [Act.put, List.getElem_toArray, List.getElem_cons_zero, List.getElem_cons_succ, List.setIfInBounds_toArray, List.set_cons_zero, List.set_cons_succ])
        refine wpAnyH_ready (rs := [11]) (by decide +kernel) (by simp) ?_
        refine AllReadyH.cons rfl (fun K hK => ?_) (AllReadyH.nil)
        (try simp only [List.getElem_toArray, List.getElem_cons_zero, List.getElem_cons_succ])
        (go_simp)
        refine hK.out _ _ ?_ (fun hHeld => ?_)
        · exact trivial
        clear hK K
        (try simp only [Act.put, List.getElem_toArray, List.getElem_cons_zero, List.getElem_cons_succ, List.setIfInBounds_toArray, List.set_cons_zero, List.set_cons_succ])
        refine wpAnyH_take (i := 12) (v := ?_) rfl (by kernel_rfl) (by kernel_rfl) (by kernel_rfl) (fun _ _ _ h => h) (Or.inl ⟨by rfl, ?_⟩) (by assumption) ?_
        rotate_left
        · intro w2 hSw
          (try dsimp only at hSw)
          (try (obtain ⟨hs1, hs2, hs3⟩ := hSw))
          go_simp
          (try (with_reducible rfl))
        (try simp only [Act.put, List.getElem_toArray, List.getElem_cons_zero, List.getElem_cons_succ, List.setIfInBounds_toArray, List.set_cons_zero, List.set_cons_succ])
        refine wpAnyH_ready (rs := [13]) (by decide +kernel) (by simp) ?_
        refine AllReadyH.cons rfl (fun K hK => ?_) (AllReadyH.nil)
        (try simp only [List.getElem_toArray, List.getElem_cons_zero, List.getElem_cons_succ])
        (go_simp)
        refine hK.out _ _ ?_ (fun hHeld => ?_)
        · exact trivial
        clear hK K
        (try simp only [Act.put, List.getElem_toArray, List.getElem_cons_zero, List.getElem_cons_succ, List.setIfInBounds_toArray, List.set_cons_zero, List.set_cons_succ])
        refine wpAnyH_take (i := 14) (v := ?_) rfl (by kernel_rfl) (by kernel_rfl) (by kernel_rfl) (fun _ _ _ h => h) (Or.inl ⟨by rfl, ?_⟩) (by assumption) ?_
        rotate_left
        · intro w2 hSw
          (try dsimp only at hSw)
          (try (obtain ⟨hs1, hs2, hs3⟩ := hSw))
          go_simp
          (try (with_reducible rfl))
        (try simp only [Act.put, List.getElem_toArray, List.getElem_cons_zero, List.getElem_cons_succ, List.setIfInBounds_toArray, List.set_cons_zero, List.set_cons_succ])
        refine wpAnyH_take (i := 15) (v := ?_) rfl (by kernel_rfl) (by kernel_rfl) (by kernel_rfl) (fun _ _ _ h => h) (Or.inl ⟨by rfl, ?_⟩) (by assumption) ?_
        rotate_left
        · intro w2 hSw
          (try dsimp only at hSw)
          (try (obtain ⟨hs1, hs2, hs3⟩ := hSw))
          go_simp
          (try (with_reducible rfl))
        (try simp only [Act.put, List.getElem_toArray, List.getElem_cons_zero, List.getElem_cons_succ, List.setIfInBounds_toArray, List.set_cons_zero, List.set_cons_succ])
        refine wpAnyH_ready (rs := [16]) (by decide +kernel) (by simp) ?_
        refine AllReadyH.cons rfl (fun K hK => ?_) (AllReadyH.nil)
        (try simp only [List.getElem_toArray, List.getElem_cons_zero, List.getElem_cons_succ])
        (go_simp)
        refine hK.out _ _ ?_ (fun hHeld => ?_)
        · exact trivial
        clear hK K
        (try simp only [Act.put, List.getElem_toArray, List.getElem_cons_zero, List.getElem_cons_succ, List.setIfInBounds_toArray, List.set_cons_zero, List.set_cons_succ])
        refine wpAnyH_done (by kernel_rfl) ?_ _
        (try dsimp only)
        generalize hWF : World.setCell (World.setCell (World.setCell _ _ _) _ _) _ _ = wf
        have hr := HK.out.r
        have hz := HK.out.z
        have RF : Row wf w.heap.size #[.int .i64 k, .slice a8 pl c8, .int .i64 sp, .int .i64 p0, .int .i64 p1, .int .i64 p2, .int .i64 p3, .slice ca cl cc, .int .i64 wd, .int .i64 cp, .int .i64 jn, .int .i64 mt, .slice a15 dl c15, .int .i64 ph, .int .i64 fn, .int .i64 m.a, .int .i64 m.b, .int .i64 m.c, .int .i64 m.d, .int .i64 m.x, .int .i64 m.y, .slice a11 bl c11] := by rw [← hWF]; exact (by apply cast; (case h => (repeat (first | (with_reducible assumption) | (with_reducible apply Row.at; (simp; done)) | (with_reducible apply Row.alloc) | (with_reducible apply Row.drew) | (with_reducible apply Row.drewN) | (with_reducible apply Row.set) | ((with_reducible apply Row.other); (case hp => first | (simp; done) | (simp; omega) | omega))))); (case e => rfl))
        have RZ : Row wf (w.heap.size + 1) #[.int .i64 0, .slice none 0 0, .int .i64 0, .int .i64 0, .int .i64 0, .int .i64 0, .int .i64 0, .slice none 0 0, .int .i64 0, .int .i64 0, .int .i64 0, .int .i64 0, .slice none 0 0, .int .i64 0, .int .i64 0, .int .i64 0, .int .i64 0, .int .i64 0, .int .i64 0, .int .i64 0, .int .i64 0, .slice none 0 0] := by rw [← hWF]; exact (by apply cast; (case h => (repeat (first | (with_reducible assumption) | (with_reducible apply Row.at; (simp; done)) | (with_reducible apply Row.alloc) | (with_reducible apply Row.drew) | (with_reducible apply Row.drewN) | (with_reducible apply Row.set) | ((with_reducible apply Row.other); (case hp => first | (simp; done) | (simp; omega) | omega))))); (case e => rfl))
        have hcf : Chg [w.heap.size] wc wf := by rw [← hWF]; exact (((Chg.refl [w.heap.size] wc).setCell (Or.inl (by simp)) _).setCell (Or.inl (by simp)) _).setCell (Or.inl (by simp)) _
        clear hWF hHeld
        go_wp2
        go_meet
        case rel => exact Lib.hid ⟨_, _, _, _, _, _, cloned_mk HPN.out HOwa.out (fun g hg => by have h1 := HFwa.out g hg; have h2 : W0.heap.size ≤ g := h1.1; exact ⟨by omega, h1.2⟩) HOwb.out HFwb.out HOwc.out HFwc.out ub uc hcf Uwc.out (by have h3 : W0.heap.size ≤ wa.heap.size := ua.size; omega) RF RZ⟩
  case rest =>
    rename World => wf
    obtain ⟨a8, c8, a11, c11, a15, c15, hcl⟩ := hcut.out
    have HCL := Lib.hid hcl
    have HRF := Lib.hid hcl.rf
    have lf := hcl.rf.lt
    have f7 : wf.cell? ⟨w.heap.size, 7, none⟩ = some (.slice ca cl cc) := hcl.rf.cell 7 rfl
    have zf := hcl.up.size
    clear hcut hcl
    go_wp2_with (first
      | (refine wpList_make_own _ rfl _ _ 52 rfl wf.heap.size 118 i0 (.agg #[.slice none 0 0, .bool false]) 2 Try.underlying52 hi hz0 hz1 .i64 .i64 _ cl rfl rfl rfl (by rw [hz2]; omega) (by unfold maxLen; omega) (by simp) ?_; intro w1 hown1 hgr1; have HM1 := Lib.hid (show MidC w1 wf.heap.size (.slice (some ⟨wf.heap.size, 0, none⟩) 0 cl) [] from ⟨hown1, (fun k hk => by cases hk), (fun k hk => by cases hk), by simpa using own_nodup _⟩); have u1 : Up wf w1 := grown_up (Up.refl _) hgr1 (fun k hk => by cases hk); have HU1 := Lib.hid u1; have RI1 : Row w1 w.heap.size #[.int .i64 k, .slice a8 pl c8, .int .i64 sp, .int .i64 p0, .int .i64 p1, .int .i64 p2, .int .i64 p3, .slice ca cl cc, .int .i64 wd, .int .i64 cp, .int .i64 jn, .int .i64 mt, .slice a15 dl c15, .int .i64 ph, .int .i64 fn, .int .i64 m.a, .int .i64 m.b, .int .i64 m.c, .int .i64 m.d, .int .i64 m.x, .int .i64 m.y, .slice a11 bl c11] := HRF.out.up u1; have z1 := u1.size; have l1 := RI1.lt; have k7 := RI1.cell 7 rfl; clear hown1 hgr1))
    go_loopw [3, 27] (fun s3 s27 wr => ∃ l1 : List Clip, ∃ a3 c3, l1.length ≤ cl ∧ s27 = .int .i64 l1.length ∧ s3 = .slice a3 l1.length c3 ∧ Hid (MidC wr wf.heap.size (.slice a3 l1.length c3) l1) ∧ Hid (l1.map (fun c => (c.l, c.eo)) = (cs.take l1.length).map (fun c => (c.l, c.eo))) ∧ Hid (Up wf wr)) (fun _ s27 _ => cl - (intOf s27).toNat)
    case atStart => exact ⟨[], _, _, Nat.zero_le _, rfl, rfl, HM1, Lib.hid rfl, HU1⟩
    case round =>
      obtain ⟨l1, a3, c3, hk, rfl, rfl, HMD, HMP, HUP⟩ := hrel
      have hzr := HUP.out.size
      have RBr : Row wr w.heap.size #[.int .i64 k, .slice a8 pl c8, .int .i64 sp, .int .i64 p0, .int .i64 p1, .int .i64 p2, .int .i64 p3, .slice ca cl cc, .int .i64 wd, .int .i64 cp, .int .i64 jn, .int .i64 mt, .slice a15 dl c15, .int .i64 ph, .int .i64 fn, .int .i64 m.a, .int .i64 m.b, .int .i64 m.c, .int .i64 m.d, .int .i64 m.x, .int .i64 m.y, .slice a11 bl c11] := HRF.out.up HUP.out
      have lbr := RBr.lt
      by_cases hlt : l1.length < cl
      · obtain ⟨⟨xv, xs, eo⟩, hx⟩ : ∃ x, cs[l1.length]? = some x := ⟨_, List.getElem?_eq_getElem (by have := HCN.out; omega)⟩
        obtain ⟨b, ob, rfl, hb, hc⟩ := HCC.out (by omega)
        have hc0 := hc l1.length _ 0 _ hx rfl
        have hc1 := hc l1.length _ 1 _ hx rfl
        simp only [Clip.cells, Nat.add_zero] at hc0 hc1
        have hsx := HCS.out _ (List.mem_of_getElem? hx)
        have hlx := HL5.out _ (List.mem_of_getElem? hx)
        simp only at hsx hlx
        obtain ⟨xn, hxn⟩ : ∃ n, xs.length = n := ⟨_, rfl⟩
        rw [hxn] at hsx hlx
        obtain ⟨xa, xc, e, _⟩ := id hsx
        subst e
        have hqr : Up w wr := Up.call HCL.out.up HUP.out
        have hq0 := (hqr.cells.1 b _ hb).trans hc0
        have hq1 := (hqr.cells.1 b _ hb).trans hc1
        have hbr : b < wr.heap.size := Nat.lt_of_lt_of_le hb hqr.size
        have HQR := Lib.hid hqr
        have HXS := Lib.hid (hsx.up hqr)
        have HXN := Lib.hid hxn
        have HX := Lib.hid hx
        have hcast : decide ((l1.length : Int) < (cl : Int)) = true := decide_eq_true (by omega)
        clear hc hc0 hc1 hx hsx hqr hxn hb
        obtain ⟨N1, hN1⟩ : ∃ k, l1.length = k := ⟨_, rfl⟩
        rw [hN1] at hlt hcast hq0 hq1 hk HMD ⊢
        have HN1 := Lib.hid hN1
        clear hN1
        go_wp2
        refine wp_region_held_drew (S := fun w' => w'.cell? ⟨wr.heap.size, 0, none⟩ = some (.slice xa xn xc) ∧ w'.cell? ⟨wr.heap.size, 1, none⟩ = some (.bool eo)) (by kernel_rfl) ?_ (fun hHeld => ?_)
        · exact s2_of (show Row _ wr.heap.size #[.slice xa xn xc, .bool eo] from (by (repeat' (first | (with_reducible assumption) | (with_reducible refine Row.at _ _ ?_; (simp; done)) | (with_reducible refine Row.alloc ?_ _) | (with_reducible refine Row.drew ?_) | (with_reducible refine Row.drewN ?_ _) | (with_reducible refine Row.other ?_ (by first | (simp; done) | (simp; omega) | omega) _) | (with_reducible refine Row.up ?_ (by with_reducible assumption)) | (with_reducible refine Row.chg ?_ (by with_reducible assumption) (by first | (simp; done) | (simp; omega)))))))
        refine wpAnyH_take (i := 0) (v := ?_) rfl (by kernel_rfl) (by kernel_rfl) (by kernel_rfl) (fun _ _ _ h => h) (Or.inl ⟨by rfl, ?_⟩) (by assumption) ?_
        rotate_left
        · intro w2 hSw
          (try dsimp only at hSw)
          (try (obtain ⟨s0, s1⟩ := hSw))
          go_simp
          (try (with_reducible rfl))
        (try simp only [Act.put, List.getElem_toArray, List.getElem_cons_zero, List.getElem_cons_succ, List.setIfInBounds_toArray, List.set_cons_zero, List.set_cons_succ])
        refine wpAnyH_take (i := 1) (v := ?_) rfl (by kernel_rfl) (by kernel_rfl) (by kernel_rfl) (fun _ _ _ h => h) (Or.inl ⟨by rfl, ?_⟩) (by assumption) ?_
        rotate_left
        · intro w2 hSw
          (try dsimp only at hSw)
          (try (obtain ⟨s0, s1⟩ := hSw))
          go_simp
          (try (with_reducible rfl))
        (try simp only [Act.put, List.getElem_toArray, List.getElem_cons_zero, List.getElem_cons_succ, List.setIfInBounds_toArray, List.set_cons_zero, List.set_cons_succ])
        refine wpAnyH_take (i := 2) (v := ?_) rfl (by kernel_rfl) (by kernel_rfl) (by kernel_rfl) (fun _ _ _ h => h) (Or.inl ⟨by rfl, ?_⟩) (by assumption) ?_
        rotate_left
        · intro w2 hSw
          (try dsimp only at hSw)
          (try (obtain ⟨s0, s1⟩ := hSw))
          go_simp
          (try (with_reducible rfl))
        (try simp only [Act.put, List.getElem_toArray, List.getElem_cons_zero, List.getElem_cons_succ, List.setIfInBounds_toArray, List.set_cons_zero, List.set_cons_succ])
        refine wpAnyH_take (i := 4) (v := ?_) rfl (by kernel_rfl) (by kernel_rfl) (by kernel_rfl) (fun _ _ _ h => h) (Or.inl ⟨by rfl, ?_⟩) (by assumption) ?_
        rotate_left
        · intro w2 hSw
          (try dsimp only at hSw)
          (try (obtain ⟨s0, s1⟩ := hSw))
          go_simp
          (try (with_reducible rfl))
        (try simp only [Act.put, List.getElem_toArray, List.getElem_cons_zero, List.getElem_cons_succ, List.setIfInBounds_toArray, List.set_cons_zero, List.set_cons_succ])
        refine wpAnyH_take (i := 5) (v := ?_) rfl (by kernel_rfl) (by kernel_rfl) (by kernel_rfl) (fun _ _ _ h => h) (Or.inl ⟨by rfl, ?_⟩) (by assumption) ?_
        rotate_left
        · intro w2 hSw
          (try dsimp only at hSw)
          (try (obtain ⟨s0, s1⟩ := hSw))
          go_simp
          (try (with_reducible rfl))
        (try simp only [Act.put, List.getElem_toArray, List.getElem_cons_zero, List.getElem_cons_succ, List.setIfInBounds_toArray, List.set_cons_zero, List.set_cons_succ])
        refine wpAnyH_ready (rs := [3]) (by decide +kernel) (by simp) ?_
        refine AllReadyH.cons rfl (fun K hK => ?_) (AllReadyH.nil)
        (try simp only [List.getElem_toArray, List.getElem_cons_zero, List.getElem_cons_succ])
        (go_simp; go_at_call 60; (with_reducible refine (cloneSegs _ xn (segCells xs) _ (HXS.out.up (by (repeat' (first | (with_reducible exact Up.refl _) | (with_reducible assumption) | (with_reducible refine Up.alloc ?_ _) | (with_reducible refine Up.drew ?_) | (with_reducible refine Up.drewN ?_ _) | (with_reducible refine Up.setCell ?_ ?_ _) | (with_reducible refine Up.call ?_ (by with_reducible assumption)) | go_size)))) (PathM.segCells_one xs) (by omega)).mono ?_); rintro E wd ⟨v34, rfl, hod, hfd, ud⟩; (obtain ⟨a34, c34, rfl⟩ := owned_val hod); have HOD := Lib.hid hod; have HFD := Lib.hid hfd; have zd := ud.size; (try simp at zd); have RBd : Row wd wr.heap.size #[.slice xa xn xc, .bool eo] := Row.up (show Row _ wr.heap.size #[.slice xa xn xc, .bool eo] by (repeat' (first | (with_reducible assumption) | (with_reducible refine Row.at _ _ ?_; (simp; done)) | (with_reducible refine Row.alloc ?_ _) | (with_reducible refine Row.drew ?_) | (with_reducible refine Row.drewN ?_ _) | (with_reducible refine Row.other ?_ (by first | (simp; done) | (simp; omega) | omega) _) | (with_reducible refine Row.up ?_ (by with_reducible assumption)) | (with_reducible refine Row.chg ?_ (by with_reducible assumption) (by first | (simp; done) | (simp; omega)))))) ud; have UD := Lib.hid (show Up wr wd by (repeat' (first | (with_reducible exact Up.refl _) | (with_reducible assumption) | (with_reducible refine Up.alloc ?_ _) | (with_reducible refine Up.drew ?_) | (with_reducible refine Up.drewN ?_ _) | (with_reducible refine Up.setCell ?_ ?_ _) | (with_reducible refine Up.call ?_ (by with_reducible assumption)) | go_size))); clear hod hfd; (try dsimp only))
        refine hK.out _ _ ?_ (fun hHeld => ?_)
        · exact ⟨RBd.cell 0 rfl, RBd.cell 1 rfl⟩
        clear hK K
        (try simp only [Act.put, List.getElem_toArray, List.getElem_cons_zero, List.getElem_cons_succ, List.setIfInBounds_toArray, List.set_cons_zero, List.set_cons_succ])
        refine wpAnyH_take (i := 6) (v := ?_) rfl (by kernel_rfl) (by kernel_rfl) (by kernel_rfl) (fun _ _ _ h => h) (Or.inl ⟨by rfl, ?_⟩) (by assumption) ?_
        rotate_left
        · intro w2 hSw
          (try dsimp only at hSw)
          (try (obtain ⟨s0, s1⟩ := hSw))
          go_simp
          (try (with_reducible rfl))
        (try simp only [Act.put, List.getElem_toArray, List.getElem_cons_zero, List.getElem_cons_succ, List.setIfInBounds_toArray, List.set_cons_zero, List.set_cons_succ])
        refine wpAnyH_ready (rs := [7]) (by decide +kernel) (by simp) ?_
        refine AllReadyH.cons rfl (fun K hK => ?_) (AllReadyH.nil)
        (try simp only [List.getElem_toArray, List.getElem_cons_zero, List.getElem_cons_succ])
        (go_simp)
        refine hK.out _ _ ?_ (fun hHeld => ?_)
        · exact s2_of (show Row _ wr.heap.size #[.slice xa xn xc, .bool eo] from (by (repeat' (first | (with_reducible assumption) | (with_reducible refine Row.at _ _ ?_; (simp; done)) | (with_reducible refine Row.alloc ?_ _) | (with_reducible refine Row.drew ?_) | (with_reducible refine Row.drewN ?_ _) | (with_reducible refine Row.other ?_ (by first | (simp; done) | (simp; omega) | omega) _) | (with_reducible refine Row.up ?_ (by with_reducible assumption)) | (with_reducible refine Row.chg ?_ (by with_reducible assumption) (by first | (simp; done) | (simp; omega)))))))
        clear hK K
        (try simp only [Act.put, List.getElem_toArray, List.getElem_cons_zero, List.getElem_cons_succ, List.setIfInBounds_toArray, List.set_cons_zero, List.set_cons_succ])
        refine wpAnyH_ready (rs := [8]) (by decide +kernel) (by simp) ?_
        refine AllReadyH.cons rfl (fun K hK => ?_) (AllReadyH.nil)
        (try simp only [List.getElem_toArray, List.getElem_cons_zero, List.getElem_cons_succ])
        (rw [if_pos (by rfl)]; refine wp_append_lies _ (.tmp 31) (.tmp 38) 52 rfl wf.heap.size 118 i0 (.agg #[.slice none 0 0, .bool false]) 2 32 Try.underlying52 hi hz0 hz1 hz2 rfl (by decide) (.slice a3 N1 c3) N1 (clipCells l1) rfl (raw_up (by have h9 := HMD.out.its; rw [HN1.out] at h9; exact h9) (show Up wr _ from Up.alloc UD.out _)) ⟨wd.heap.size, 0, none⟩ 1 1 [.slice a34 xn c34, .bool eo] rfl rfl (news_at (by (repeat' (first | (with_reducible assumption) | (with_reducible refine Row.at _ _ ?_; (simp; done)) | (with_reducible refine Row.alloc ?_ _) | (with_reducible refine Row.drew ?_) | (with_reducible refine Row.drewN ?_ _) | (with_reducible refine Row.other ?_ (by first | (simp; done) | (simp; omega) | omega) _) | (with_reducible refine Row.up ?_ (by with_reducible assumption)) | (with_reducible refine Row.chg ?_ (by with_reducible assumption) (by first | (simp; done) | (simp; omega)))))) rfl) (by simp [Value.oneCell']) (by decide) (by unfold maxLen; omega) (by omega) (by simp; omega) _ rfl ?_; intro g2 cap2 we hown5 hgr5 hat5 hg5; have HM5 := Lib.hid (MidC.more (k := ⟨.slice a34 xn c34, xs, eo⟩) (w1 := wd) (w2 := we) (H := wd.heap.size + 1) (g2 := g2) (cap2 := cap2) HMD.out UD.out (by show wd.ownsRow 0 _ 7 _ xs.length _; rw [HXN.out]; exact HOD.out) (fun g hg => by have h9 := HFD.out g hg; simp at h9; omega) (Chg.grown (Chg.of_up (Up.alloc (Up.refl wd) _)) hgr5 (fun k hk => Or.inl (own_mem hk))) (by rcases hat5 with h9 | h9; exact Or.inl h9; exact Or.inr (by simpa using h9)) (Nat.le_succ _) hzr (by rw [HN1.out]; exact hown5)); have HU5 := Lib.hid (show Up wf we from ((Chg.of_up (S := own (.slice a3 N1 c3)) (Up.call HUP.out UD.out)).call (Chg.grown (Chg.of_up (Up.alloc (Up.refl wd) _)) hgr5 (fun k hk => Or.inl (own_mem hk))) (fun k hk => Or.inl hk)).up_base (fun k hk => (HMD.out.its.lt k (own_of hk)).1)); have z5 := hgr5.size; (try simp at z5); have qe : we.cell? ⟨wr.heap.size, 0, none⟩ = some (.slice xa xn xc) ∧ we.cell? ⟨wr.heap.size, 1, none⟩ = some (.bool eo) := (by have h9 : Row we wr.heap.size #[.slice xa xn xc, .bool eo] := Row.chg RBd (Chg.grown (Chg.of_up (Up.alloc (Up.refl wd) _)) hgr5 (fun k hk => Or.inl (own_mem hk))) (fun hk => by have := (HMD.out.its.lt _ (own_of hk)).2; omega); exact ⟨h9.cell 0 rfl, h9.cell 1 rfl⟩); clear hown5 hgr5 hat5)
        refine hK.out _ _ ?_ (fun hHeld => ?_)
        · exact qe
        clear hK K
        (try simp only [Act.put, List.getElem_toArray, List.getElem_cons_zero, List.getElem_cons_succ, List.setIfInBounds_toArray, List.set_cons_zero, List.set_cons_succ])
        refine wpAnyH_take (i := 9) (v := ?_) rfl (by kernel_rfl) (by kernel_rfl) (by kernel_rfl) (fun _ _ _ h => h) (Or.inl ⟨by rfl, ?_⟩) (by assumption) ?_
        rotate_left
        · intro w2 hSw
          (try dsimp only at hSw)
          (try (obtain ⟨s0, s1⟩ := hSw))
          go_simp
          (try (with_reducible rfl))
        (try simp only [Act.put, List.getElem_toArray, List.getElem_cons_zero, List.getElem_cons_succ, List.setIfInBounds_toArray, List.set_cons_zero, List.set_cons_succ])
        refine wpAnyH_done (by kernel_rfl) ?_ _
        clear hHeld
        go_wp2
        go_roundw
        case rel => exact ⟨l1 ++ [⟨.slice a34 xn c34, xs, eo⟩], some ⟨g2, 0, none⟩, cap2, by rw [List.length_append, List.length_singleton, HN1.out]; omega, by rw [List.length_append, List.length_singleton, HN1.out]; go_num, by rw [List.length_append, List.length_singleton, HN1.out], Lib.hid (by rw [List.length_append, List.length_singleton, HN1.out]; have h9 := HM5.out; rw [HN1.out] at h9; exact h9), Lib.hid (by rw [List.length_append, List.length_singleton, take_map_succ HX.out, List.map_append, HMP.out]; rfl), HU5⟩
        case measure => simp [intOf]; omega
      · obtain ⟨N1, hN1⟩ : ∃ k, l1.length = k := ⟨_, rfl⟩
        rw [hN1] at hlt hk HMD ⊢
        obtain rfl : N1 = cl := by omega
        have HN1 := Lib.hid hN1
        have hcast : decide ((N1 : Int) < (N1 : Int)) = false := decide_eq_false (by omega)
        have k7 : wr.cell? ⟨w.heap.size, 7, none⟩ = some (.slice ca N1 cc) := RBr.cell 7 rfl
        have fr7 := RBr.free 7
        have RZr : Row wr (w.heap.size + 1) #[.int .i64 0, .slice none 0 0, .int .i64 0, .int .i64 0, .int .i64 0, .int .i64 0, .int .i64 0, .slice none 0 0, .int .i64 0, .int .i64 0, .int .i64 0, .int .i64 0, .slice none 0 0, .int .i64 0, .int .i64 0, .int .i64 0, .int .i64 0, .int .i64 0, .int .i64 0, .int .i64 0, .int .i64 0, .slice none 0 0] := HCL.out.rz.up HUP.out
        clear hN1 hlt
        go_wp2_with (first
          | (refine wpList_load_Row rfl 55 (.tmp 1) rfl (w.heap.size) rfl #[.int .i64 k, .slice a8 pl c8, .int .i64 sp, .int .i64 p0, .int .i64 p1, .int .i64 p2, .int .i64 p3, .slice a3 N1 c3, .int .i64 wd, .int .i64 cp, .int .i64 jn, .int .i64 mt, .slice a15 dl c15, .int .i64 ph, .int .i64 fn, .int .i64 m.a, .int .i64 m.b, .int .i64 m.c, .int .i64 m.d, .int .i64 m.x, .int .i64 m.y, .slice a11 bl c11] _ (show Row _ w.heap.size #[.int .i64 k, .slice a8 pl c8, .int .i64 sp, .int .i64 p0, .int .i64 p1, .int .i64 p2, .int .i64 p3, .slice a3 N1 c3, .int .i64 wd, .int .i64 cp, .int .i64 jn, .int .i64 mt, .slice a15 dl c15, .int .i64 ph, .int .i64 fn, .int .i64 m.a, .int .i64 m.b, .int .i64 m.c, .int .i64 m.d, .int .i64 m.x, .int .i64 m.y, .slice a11 bl c11] from (by apply cast; (case h => (repeat (first | (with_reducible assumption) | (with_reducible apply Row.at; (simp; done)) | (with_reducible apply Row.alloc) | (with_reducible apply Row.drew) | (with_reducible apply Row.drewN) | (with_reducible apply Row.set) | ((with_reducible apply Row.other); (case hp => first | (simp; done) | (simp; omega) | omega))))); (case e => rfl))) Try.underlying55 rfl infoItem rfl ?_)
          | ((refine wpList_store_Row rfl 55 (.tmp 2) _ rfl (w.heap.size + 1) #[.int .i64 k, .slice a8 pl c8, .int .i64 sp, .int .i64 p0, .int .i64 p1, .int .i64 p2, .int .i64 p3, .slice a3 N1 c3, .int .i64 wd, .int .i64 cp, .int .i64 jn, .int .i64 mt, .slice a15 dl c15, .int .i64 ph, .int .i64 fn, .int .i64 m.a, .int .i64 m.b, .int .i64 m.c, .int .i64 m.d, .int .i64 m.x, .int .i64 m.y, .slice a11 bl c11] rfl rfl #[.int .i64 0, .slice none 0 0, .int .i64 0, .int .i64 0, .int .i64 0, .int .i64 0, .int .i64 0, .slice none 0 0, .int .i64 0, .int .i64 0, .int .i64 0, .int .i64 0, .slice none 0 0, .int .i64 0, .int .i64 0, .int .i64 0, .int .i64 0, .int .i64 0, .int .i64 0, .int .i64 0, .int .i64 0, .slice none 0 0] (by (repeat' (first | (with_reducible assumption) | (with_reducible refine Row.at _ _ ?_; (simp; done)) | (with_reducible refine Row.alloc ?_ _) | (with_reducible refine Row.drew ?_) | (with_reducible refine Row.drewN ?_ _) | (with_reducible refine Row.other ?_ (by first | (simp; done) | (simp; omega) | omega) _) | (with_reducible refine Row.up ?_ (by with_reducible assumption)) | (with_reducible refine Row.chg ?_ (by with_reducible assumption) (by first | (simp; done) | (simp; omega)))))) infoItem rfl rfl (by simp [Value.oneCell']) ?_); intro w3 hr3 hc3))
        (try simp only [Exit.inBlock, Exit.then])
        refine bodyPost_ret (results_own _ _ (w.heap.size + 1) #[.int .i64 k, .slice a8 pl c8, .int .i64 sp, .int .i64 p0, .int .i64 p1, .int .i64 p2, .int .i64 p3, .slice a3 N1 c3, .int .i64 wd, .int .i64 cp, .int .i64 jn, .int .i64 mt, .slice a15 dl c15, .int .i64 ph, .int .i64 fn, .int .i64 m.a, .int .i64 m.b, .int .i64 m.c, .int .i64 m.d, .int .i64 m.x, .int .i64 m.y, .slice a11 bl c11] rfl hr3 rfl) rfl ?_
        have hcz : Chg [w.heap.size, w.heap.size + 1] wr w3 := (((Chg.refl [w.heap.size, w.heap.size + 1] wr).setCell (Or.inl (by simp)) _).call hc3 (fun k hk => Or.inl (by simp at hk; simp [hk])))
        obtain ⟨h1, h2, h3, h4, h5, h6, h7, h8, h9⟩ := own_mk HCL.out HMD.out HN1.out (by have h9 := HMP.out; rwa [HN1.out, List.take_of_length_le (by have := HCN.out; omega)] at h9) HUP.out hcz
        exact ⟨a8, c8, a11, c11, a15, c15, a3, c3, l1, rfl, h1, h2, h3, h4, h5, h6, h7, h8, h9⟩

end Go.Proofs.Yteddlahklilncaa.Pt