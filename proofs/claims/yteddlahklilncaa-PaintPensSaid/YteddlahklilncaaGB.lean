/- own and spoil, of items; paint's lay, Add, owns and Items of one item. Its condition: the fonts' names lie as they are laid. paint's lay and Add of a page's first item. Its condition: the fonts' names lie as they are laid. paint's owns and Items of one item. No condition but lengths that an append bears. Show of a page that holds one item. No condition. -/
import Derived.Test.YteddlahklilncaaPa2
import Derived.Deep.AppendLies
import Derived.Deep.RegionHeld3
import Derived.Deep.RegionLaw
import Derived.Deep.Cut
section
namespace Go.Proofs.Yteddlahklilncaa.Pt
open Go.ChangeShapes Go.WideShapes Go.ChangeAt Go.RowKit
open Go.Proofs.Yteddlahklilncaa.FixM (fits)
open Go.Proofs.Yteddlahklilncaa.PathM (Seg sound)
open Go.Proofs.Yteddlahklilncaa.MatM (M6)
set_option linter.unusedVariables false
set_option linter.unusedSimpArgs false
open Go.Proofs.Yteddlahklilncaa.PathM (segCells)
/-- lengths that an append bears -/
structure Lens (x : Dat) : Prop where
  l : x.l.length ≤ 10000
  b : x.bs.length ≤ 100000
  d : x.ds.length ≤ 10000
  c : x.cl.length ≤ 100
  p : ∀ c ∈ x.cl, c.1.length ≤ 10000
theorem src_segV {w : World} {v : Value} {l : List Seg} (h : Path.Segs w v l) : Src w v 7 l.length (segCells l) := by
  obtain ⟨a, len, cap, e, hs⟩ := owns_sl (cells := PathM.Seg.cells) (fun s => rfl) h
  have := src_sl (K := 7) (cells := PathM.Seg.cells) (by decide) (fun s => rfl) hs
  rw [e]
  have h2 := hs.2.2.1
  rw [h2]
  exact this
theorem src_owns {w : World} {e : TypeId} {v : Value} {k : IntKind} {zs : List Int} (h : w.ownsRow 0 e 1 v zs.length (zs.map (Value.int k))) (hw : ∀ z ∈ zs, (Lit.int k z).wf = true) : Src w v 1 zs.length (zs.map (Value.int k)) := src_ints (owns_ints h hw)
/-- an item that may lie anywhere: what own reads -/
structure ItemA (w : World) (i : Item) : Prop where
  p : Src w i.pv 7 i.l.length (segCells i.l)
  b : Src w i.bv 1 i.bs.length (i.bs.map (Value.int .u8))
  d : Src w i.dv 1 i.ds.length (i.ds.map (Value.int .i64))
  c : ∃ a len cap, i.cv = .slice a len cap ∧ Sl 2 Clip.cells w a len cap i.cl
  cs : ∀ c ∈ i.cl, Src w c.v 7 c.l.length (segCells c.l)
  dw : ∀ z ∈ i.ds, (Lit.int .i64 z).wf = true
  bw : ∀ z ∈ i.bs, (Lit.int .u8 z).wf = true
theorem ItemA.up {w w1 : World} {i : Item} (h : ItemA w i) (hu : Up w w1) : ItemA w1 i := by
  obtain ⟨a, len, cap, e, hs⟩ := h.c
  exact ⟨h.p.up hu, h.b.up hu, h.d.up hu, ⟨a, len, cap, e, sl_up hs hu⟩, fun c hc => (h.cs c hc).up hu, h.dw, h.bw⟩
theorem ItemO.a {w : World} {i : Item} (h : ItemO w i) : ItemA w i := by
  obtain ⟨a, len, cap, e, hs⟩ := owns_sl clip_len h.cv
  exact ⟨src_segV h.pv, src_owns h.bv h.bw, src_owns h.dv h.dw, ⟨a, len, cap, e, hs⟩, fun c hc => src_segV (h.cs c hc), h.dw, h.bw⟩
def Lens.of (i : Item) : Prop := Lens i.dat

end Go.Proofs.Yteddlahklilncaa.Pt
end

section
namespace Go.Proofs.Yteddlahklilncaa.Pt
open List renaming getElem_toArray → lga, getElem_cons_zero → lgz, getElem_cons_succ → lgs, setIfInBounds_toArray → lsa, set_cons_zero → lsz, set_cons_succ → lss
open Go.ChangeShapes Go.WideShapes Go.ChangeAt Go.RowKit
open Go.Proofs.Yteddlahklilncaa.FixM (fits)
open Go.Proofs.Yteddlahklilncaa.PathM (Seg sound)
open Go.Proofs.Yteddlahklilncaa.MatM (M6)
set_option linter.unusedVariables false
set_option linter.unusedSimpArgs false
open Go.Proofs.Yteddlahklilncaa.PathM (segCells)
theorem infoIt3 : (Try.prog.info? 55).map (fun i => (i.zero, i.size, i.bytes)) = some (some (.agg #[.int .i64 0, .slice none 0 0, .int .i64 0, .int .i64 0, .int .i64 0, .int .i64 0, .int .i64 0, .slice none 0 0, .int .i64 0, .int .i64 0, .int .i64 0, .int .i64 0, .slice none 0 0, .int .i64 0, .int .i64 0, .int .i64 0, .int .i64 0, .int .i64 0, .int .i64 0, .int .i64 0, .int .i64 0, .slice none 0 0]), 22, 240) := by kernel_rfl
/-- own, piece by piece -/
theorem own_x (k : Int) (pa : Option Addr) (pl pc : Nat) (sp p0 p1 p2 p3 : Int) (ca : Option Addr) (cl cc : Nat) (wd cp jn mt : Int) (da : Option Addr) (dl dc : Nat) (ph fn : Int) (m : M6) (ba : Option Addr) (bl bc : Nat) (l : List Seg) (cs : List Clip) (ds bs : List Int) (w : World) (h : ItemA w ⟨k, .slice pa pl pc, l, sp, p0, p1, p2, p3, .slice ca cl cc, cs, wd, cp, jn, mt, .slice da dl dc, ds, ph, fn, m, .slice ba bl bc, bs⟩) (hl : Lens (Item.dat ⟨k, .slice pa pl pc, l, sp, p0, p1, p2, p3, .slice ca cl cc, cs, wd, cp, jn, mt, .slice da dl dc, ds, ph, fn, m, .slice ba bl bc, bs⟩)) (hp : l.length = pl) (hb : bs.length = bl) (hd : ds.length = dl) :
    Calls Try.prog 49 #[.agg #[.int .i64 k, .slice pa pl pc, .int .i64 sp, .int .i64 p0, .int .i64 p1, .int .i64 p2, .int .i64 p3, .slice ca cl cc, .int .i64 wd, .int .i64 cp, .int .i64 jn, .int .i64 mt, .slice da dl dc, .int .i64 ph, .int .i64 fn, .int .i64 m.a, .int .i64 m.b, .int .i64 m.c, .int .i64 m.d, .int .i64 m.x, .int .i64 m.y, .slice ba bl bc]] w fun E w' => ∃ a8 c8 a11 c11 a15 c15 a7 c7 cs', E = .returned (.agg #[.int .i64 k, .slice a8 pl c8, .int .i64 sp, .int .i64 p0, .int .i64 p1, .int .i64 p2, .int .i64 p3, .slice a7 cl c7, .int .i64 wd, .int .i64 cp, .int .i64 jn, .int .i64 mt, .slice a15 dl c15, .int .i64 ph, .int .i64 fn, .int .i64 m.a, .int .i64 m.b, .int .i64 m.c, .int .i64 m.d, .int .i64 m.x, .int .i64 m.y, .slice a11 bl c11]) ∧ Item.dat ⟨k, .slice a8 pl c8, l, sp, p0, p1, p2, p3, .slice a7 cl c7, cs', wd, cp, jn, mt, .slice a15 dl c15, ds, ph, fn, m, .slice a11 bl c11, bs⟩ = Item.dat ⟨k, .slice pa pl pc, l, sp, p0, p1, p2, p3, .slice ca cl cc, cs, wd, cp, jn, mt, .slice da dl dc, ds, ph, fn, m, .slice ba bl bc, bs⟩ ∧ ItemO w' ⟨k, .slice a8 pl c8, l, sp, p0, p1, p2, p3, .slice a7 cl c7, cs', wd, cp, jn, mt, .slice a15 dl c15, ds, ph, fn, m, .slice a11 bl c11, bs⟩ ∧ (∀ b ∈ Item.bl ⟨k, .slice a8 pl c8, l, sp, p0, p1, p2, p3, .slice a7 cl c7, cs', wd, cp, jn, mt, .slice a15 dl c15, ds, ph, fn, m, .slice a11 bl c11, bs⟩, w.heap.size ≤ b ∧ b < w'.heap.size) ∧ Up w w' := by
  subst hp hb hd
  obtain ⟨ip, ib, id, ⟨ca2, cl2, cc2, ec, ic⟩, ics, idw, ibw⟩ := h
  injection ec with e1 e2 e3
  subst e1 e2 e3
  obtain ⟨l1, l2, l3, l4, l5⟩ := hl
  simp only [Item.dat, List.length_map] at l1 l2 l3 l4 l5
  have hcn := ic.2.2.1
  simp only at hcn
  refine (own_calls k pa l.length pc sp p0 p1 p2 p3 ca cl cc wd cp jn mt da ds.length dc ph fn m ba bs.length bc l cs ds bs w ip rfl ib id ic ics l1 l2 l3 (by omega) (fun c hc => l5 (c.l, c.eo) (List.mem_map.2 ⟨c, hc, rfl⟩))).mono ?_
  rintro E w' ⟨a8, c8, a11, c11, a15, c15, a7, c7, cs', rfl, h1, h2, h3, h4, h5, h6, h7, h8, h9⟩
  refine ⟨a8, c8, a11, c11, a15, c15, a7, c7, cs', rfl, ?_, ⟨h2, h5, h6, h4, h3, idw, ibw, h7⟩, h8, h9⟩
  simp only [Item.dat, h1]
theorem ownsRow_low {w : World} {base b2 : Nat} {e : TypeId} {K : Nat} {v : Value} {n : Nat} {xs : List Value} (h : w.ownsRow base e K v n xs) (hb : b2 ≤ base) : w.ownsRow b2 e K v n xs := by
  refine ⟨h.1, ?_⟩
  rcases h.2 with h2 | ⟨g, cap, cur, hv2, hg, hr⟩
  · exact Or.inl h2
  · exact Or.inr ⟨g, cap, cur, hv2, by omega, hr⟩

set_option maxRecDepth 8000 in
set_option maxHeartbeats 8000000 in
theorem lay_first (k : Int) (pa : Option Addr) (pl pc : Nat) (sp p0 p1 p2 p3 : Int) (ca : Option Addr) (cl cc : Nat) (wd cp jn mt : Int) (da : Option Addr) (dl dc : Nat) (ph fn : Int) (m : M6) (ba : Option Addr) (bl bc : Nat) (l : List Seg) (cs : List Clip) (ds bs : List Int) (W H n : Int) (c : Nat) (w : World) (hr : Row w c #[.int .i64 W, .int .i64 H, .slice none 0 0, .int .i64 n, .slice none 0 0]) (h : ItemA w ⟨k, .slice pa pl pc, l, sp, p0, p1, p2, p3, .slice ca cl cc, cs, wd, cp, jn, mt, .slice da dl dc, ds, ph, fn, m, .slice ba bl bc, bs⟩) (hl : Lens (Item.dat ⟨k, .slice pa pl pc, l, sp, p0, p1, p2, p3, .slice ca cl cc, cs, wd, cp, jn, mt, .slice da dl dc, ds, ph, fn, m, .slice ba bl bc, bs⟩)) (hp : l.length = pl) (hb : bs.length = bl) (hd : ds.length = dl) :
    Calls Try.prog 47 #[.pointer (some ⟨c, 0, none⟩), .agg #[.int .i64 k, .slice pa pl pc, .int .i64 sp, .int .i64 p0, .int .i64 p1, .int .i64 p2, .int .i64 p3, .slice ca cl cc, .int .i64 wd, .int .i64 cp, .int .i64 jn, .int .i64 mt, .slice da dl dc, .int .i64 ph, .int .i64 fn, .int .i64 m.a, .int .i64 m.b, .int .i64 m.c, .int .i64 m.d, .int .i64 m.x, .int .i64 m.y, .slice ba bl bc]] w fun E w' => E = .returned (.int .i64 0) ∧ ∃ j : Item, j.dat = Item.dat ⟨k, .slice pa pl pc, l, sp, p0, p1, p2, p3, .slice ca cl cc, cs, wd, cp, jn, mt, .slice da dl dc, ds, ph, fn, m, .slice ba bl bc, bs⟩ ∧ ∃ g cap : Nat, Row w' c #[.int .i64 W, .int .i64 H, .slice (some ⟨g, 0, none⟩) 1 cap, .int .i64 n, .slice none 0 0] ∧ ItemO w' j ∧ w'.ownsRow w.heap.size 55 22 (.slice (some ⟨g, 0, none⟩) 1 cap) 1 j.cells ∧ (∀ b ∈ j.bl, w.heap.size ≤ b ∧ b ≠ g) ∧ Chg [c] w w' := by
  obtain ⟨i0, hi, hz0, hz1, hz2⟩ := info_parts3 infoIt3
  have HR := Lib.hid hr
  have HA := Lib.hid h
  have HL := Lib.hid hl
  have HPN := Lib.hid hp
  have HBN := Lib.hid hb
  have HDN := Lib.hid hd
  have HLC := Lib.hid hr.lt
  have q2 : w.cell? ⟨c, 2, none⟩ = some (.slice none 0 0) := hr.cell 2 rfl
  have lc := hr.lt
  have lc1 : c < w.heap.size + 1 := Nat.lt_succ_of_lt lc
  clear hr h hl hp hb hd
  go_enter Try.func47, Try.ntmps47
  go_wp2
  refine wp_region_held_drew (S := fun w' => Row w' w.heap.size #[.int .i64 k, .slice pa pl pc, .int .i64 sp, .int .i64 p0, .int .i64 p1, .int .i64 p2, .int .i64 p3, .slice ca cl cc, .int .i64 wd, .int .i64 cp, .int .i64 jn, .int .i64 mt, .slice da dl dc, .int .i64 ph, .int .i64 fn, .int .i64 m.a, .int .i64 m.b, .int .i64 m.c, .int .i64 m.d, .int .i64 m.x, .int .i64 m.y, .slice ba bl bc]) (by kernel_rfl) ?_ (fun hHeld => ?_)
  · exact Row.drew (show Row _ w.heap.size #[.int .i64 k, .slice pa pl pc, .int .i64 sp, .int .i64 p0, .int .i64 p1, .int .i64 p2, .int .i64 p3, .slice ca cl cc, .int .i64 wd, .int .i64 cp, .int .i64 jn, .int .i64 mt, .slice da dl dc, .int .i64 ph, .int .i64 fn, .int .i64 m.a, .int .i64 m.b, .int .i64 m.c, .int .i64 m.d, .int .i64 m.x, .int .i64 m.y, .slice ba bl bc] from (by (repeat' (with_reducible first | assumption | (refine Row.at _ _ ?_; (simp; done)) | refine Row.alloc ?_ _ | refine Row.drew ?_ | refine Row.drewN ?_ _ | refine Row.other ?_ (by first | (simp; done) | (simp; omega) | omega) _ | refine Row.up ?_ (by assumption) | refine Row.chg ?_ (by assumption) (by first | (simp; done) | (simp; omega))))))
  refine wpAnyH_take (i := 0) (v := ?_) rfl (by kernel_rfl) (by kernel_rfl) (by kernel_rfl) (fun _ _ _ h => h) (Or.inl ⟨by rfl, ?_⟩) (by assumption) ?_
  rotate_left
  · intro w2 hSw
    (try dsimp only at hSw)
    skip
    go_simp
    (try (with_reducible rfl))
  (try simp only [Act.put, lga, lgz, lgs, lsa, lsz, lss])
  refine wpAnyH_take (i := 1) (v := ?_) rfl (by kernel_rfl) (by kernel_rfl) (by kernel_rfl) (fun _ _ _ h => h) (Or.inl ⟨by rfl, ?_⟩) (by assumption) ?_
  rotate_left
  · intro w2 hSw
    (try dsimp only at hSw)
    skip
    go_simp
    (try (with_reducible rfl))
  (try simp only [Act.put, lga, lgz, lgs, lsa, lsz, lss])
  refine wpAnyH_take (i := 2) (v := ?_) rfl (by kernel_rfl) (by kernel_rfl) (by kernel_rfl) (fun _ _ _ h => h) (Or.inl ⟨by rfl, ?_⟩) (by assumption) ?_
  rotate_left
  · intro w2 hSw
    (try dsimp only at hSw)
    skip
    go_simp
    (try (with_reducible rfl))
  (try simp only [Act.put, lga, lgz, lgs, lsa, lsz, lss])
  refine wpAnyH_take (i := 3) (v := ?_) rfl (by kernel_rfl) (by kernel_rfl) (by kernel_rfl) (fun _ _ _ h => h) (Or.inl ⟨by rfl, ?_⟩) (by assumption) ?_
  rotate_left
  · intro w2 hSw
    (try dsimp only at hSw)
    skip
    go_simp
    (try (with_reducible rfl))
  (try simp only [Act.put, lga, lgz, lgs, lsa, lsz, lss])
  refine wpAnyH_take (i := 4) (v := ?_) rfl (by kernel_rfl) (by kernel_rfl) (by kernel_rfl) (fun _ _ _ h => h) (Or.inl ⟨by rfl, ?_⟩) (by assumption) ?_
  rotate_left
  · intro w2 hSw
    (try dsimp only at hSw)
    skip
    go_simp
    (try (with_reducible rfl))
  (try simp only [Act.put, lga, lgz, lgs, lsa, lsz, lss])
  refine wpAnyH_take (i := 6) rfl (by kernel_rfl) (by kernel_rfl) (by kernel_rfl) (fun _ _ _ h => h) (yieldsIf_load_mid (by rfl) 55 (.tmp 3) rfl w.heap.size 0 rfl #[.int .i64 k, .slice pa pl pc, .int .i64 sp, .int .i64 p0, .int .i64 p1, .int .i64 p2, .int .i64 p3, .slice ca cl cc, .int .i64 wd, .int .i64 cp, .int .i64 jn, .int .i64 mt, .slice da dl dc, .int .i64 ph, .int .i64 fn, .int .i64 m.a, .int .i64 m.b, .int .i64 m.c, .int .i64 m.d, .int .i64 m.x, .int .i64 m.y, .slice ba bl bc].toList _ (fun _ h => rng0 h) Try.underlying55 rfl (by exact infoItem)) (by assumption) ?_
  (try simp only [Act.put, lga, lgz, lgs, lsa, lsz, lss])
  refine wpAnyH_ready (rs := [5, 7]) (by decide +kernel) (by simp) ?_
  refine AllReadyH.cons rfl (fun K hK => ?_) (AllReadyH.cons rfl (fun K hK => ?_) (AllReadyH.nil))
  · skip
    (try simp only [lga, lgz, lgs])
    (go_simp)
    refine hK.out _ _ ?_ (fun hHeld => ?_)
    · exact (show Row _ w.heap.size #[.int .i64 k, .slice pa pl pc, .int .i64 sp, .int .i64 p0, .int .i64 p1, .int .i64 p2, .int .i64 p3, .slice ca cl cc, .int .i64 wd, .int .i64 cp, .int .i64 jn, .int .i64 mt, .slice da dl dc, .int .i64 ph, .int .i64 fn, .int .i64 m.a, .int .i64 m.b, .int .i64 m.c, .int .i64 m.d, .int .i64 m.x, .int .i64 m.y, .slice ba bl bc] from (by (repeat' (with_reducible first | assumption | (refine Row.at _ _ ?_; (simp; done)) | refine Row.alloc ?_ _ | refine Row.drew ?_ | refine Row.drewN ?_ _ | refine Row.other ?_ (by first | (simp; done) | (simp; omega) | omega) _ | refine Row.up ?_ (by assumption) | refine Row.chg ?_ (by assumption) (by first | (simp; done) | (simp; omega))))))
    clear hK K
    (try simp only [Act.put, lga, lgz, lgs, lsa, lsz, lss])
    refine wpAnyH_ready (rs := [7]) (by decide +kernel) (by simp) ?_
    refine AllReadyH.cons rfl (fun K hK => ?_) (AllReadyH.nil)
    (try simp only [lga, lgz, lgs])
    (go_simp; go_at_call 49; (with_reducible refine (own_x k pa pl pc sp p0 p1 p2 p3 ca cl cc wd cp jn mt da dl dc ph fn m ba bl bc l cs ds bs _ (HA.out.up (by (repeat' (first | (with_reducible first | exact Up.refl _ | assumption | refine Up.alloc ?_ _ | refine Up.drew ?_ | refine Up.drewN ?_ _ | refine Up.setCell ?_ ?_ _ | refine Up.call ?_ (by assumption)) | go_size)))) HL.out HPN.out HBN.out HDN.out).mono ?_); rintro E wo ⟨a8, c8, a11, c11, a15, c15, a7, c7, cs', rfl, hdat, hio, hfr, uo⟩; have HDAT := Lib.hid hdat; have HIO := Lib.hid hio; have HFR := Lib.hid hfr; have zo := uo.size; (try simp at zo); have RBo : Row wo w.heap.size #[.int .i64 k, .slice pa pl pc, .int .i64 sp, .int .i64 p0, .int .i64 p1, .int .i64 p2, .int .i64 p3, .slice ca cl cc, .int .i64 wd, .int .i64 cp, .int .i64 jn, .int .i64 mt, .slice da dl dc, .int .i64 ph, .int .i64 fn, .int .i64 m.a, .int .i64 m.b, .int .i64 m.c, .int .i64 m.d, .int .i64 m.x, .int .i64 m.y, .slice ba bl bc] := Row.up (show Row _ w.heap.size #[.int .i64 k, .slice pa pl pc, .int .i64 sp, .int .i64 p0, .int .i64 p1, .int .i64 p2, .int .i64 p3, .slice ca cl cc, .int .i64 wd, .int .i64 cp, .int .i64 jn, .int .i64 mt, .slice da dl dc, .int .i64 ph, .int .i64 fn, .int .i64 m.a, .int .i64 m.b, .int .i64 m.c, .int .i64 m.d, .int .i64 m.x, .int .i64 m.y, .slice ba bl bc] by (repeat' (with_reducible first | assumption | (refine Row.at _ _ ?_; (simp; done)) | refine Row.alloc ?_ _ | refine Row.drew ?_ | refine Row.drewN ?_ _ | refine Row.other ?_ (by first | (simp; done) | (simp; omega) | omega) _ | refine Row.up ?_ (by assumption) | refine Row.chg ?_ (by assumption) (by first | (simp; done) | (simp; omega))))) uo; have RCo : Row wo c #[.int .i64 W, .int .i64 H, .slice none 0 0, .int .i64 n, .slice none 0 0] := Row.up (show Row _ c #[.int .i64 W, .int .i64 H, .slice none 0 0, .int .i64 n, .slice none 0 0] from (by have h9 := HR.out; (repeat' (with_reducible first | assumption | (refine Row.at _ _ ?_; (simp; done)) | refine Row.alloc ?_ _ | refine Row.drew ?_ | refine Row.drewN ?_ _ | refine Row.other ?_ (by first | (simp; done) | (simp; omega) | omega) _ | refine Row.up ?_ (by assumption) | refine Row.chg ?_ (by assumption) (by first | (simp; done) | (simp; omega)))))) uo; have x2 : wo.cell? ⟨c, 2, none⟩ = some (.slice none 0 0) := RCo.cell 2 rfl; have lco := RCo.lt; have UO := Lib.hid (show Up w wo by (repeat' (first | (with_reducible first | exact Up.refl _ | assumption | refine Up.alloc ?_ _ | refine Up.drew ?_ | refine Up.drewN ?_ _ | refine Up.setCell ?_ ?_ _ | refine Up.call ?_ (by assumption)) | go_size))); clear hdat hio hfr; (try dsimp only))
    refine hK.out _ _ ?_ (fun hHeld => ?_)
    · exact RBo
    clear hK K
    (try simp only [Act.put, lga, lgz, lgs, lsa, lsz, lss])
    refine wpAnyH_ready (rs := [8]) (by decide +kernel) (by simp) ?_
    refine AllReadyH.cons rfl (fun K hK => ?_) (AllReadyH.nil)
    (try simp only [lga, lgz, lgs])
    (go_simp)
    refine hK.out _ _ ?_ (fun hHeld => ?_)
    · exact (show Row _ w.heap.size #[.int .i64 k, .slice pa pl pc, .int .i64 sp, .int .i64 p0, .int .i64 p1, .int .i64 p2, .int .i64 p3, .slice ca cl cc, .int .i64 wd, .int .i64 cp, .int .i64 jn, .int .i64 mt, .slice da dl dc, .int .i64 ph, .int .i64 fn, .int .i64 m.a, .int .i64 m.b, .int .i64 m.c, .int .i64 m.d, .int .i64 m.x, .int .i64 m.y, .slice ba bl bc] from (by (repeat' (with_reducible first | assumption | (refine Row.at _ _ ?_; (simp; done)) | refine Row.alloc ?_ _ | refine Row.drew ?_ | refine Row.drewN ?_ _ | refine Row.other ?_ (by first | (simp; done) | (simp; omega) | omega) _ | refine Row.up ?_ (by assumption) | refine Row.chg ?_ (by assumption) (by first | (simp; done) | (simp; omega))))))
    clear hK K
    (try simp only [Act.put, lga, lgz, lgs, lsa, lsz, lss])
    refine wpAnyH_ready (rs := [9]) (by decide +kernel) (by simp) ?_
    refine AllReadyH.cons rfl (fun K hK => ?_) (AllReadyH.nil)
    (try simp only [lga, lgz, lgs])
    (rw [if_pos (by rfl)]; refine wp_append_lies _ (.tmp 17) (.tmp 20) 45 rfl w.heap.size 55 i0 (.agg #[.int .i64 0, .slice none 0 0, .int .i64 0, .int .i64 0, .int .i64 0, .int .i64 0, .int .i64 0, .slice none 0 0, .int .i64 0, .int .i64 0, .int .i64 0, .int .i64 0, .slice none 0 0, .int .i64 0, .int .i64 0, .int .i64 0, .int .i64 0, .int .i64 0, .int .i64 0, .int .i64 0, .int .i64 0, .slice none 0 0]) 22 240 Try.underlying45 hi hz0 hz1 hz2 rfl (by decide) (.slice none 0 0) 0 [] rfl (World.ownsRow_nil _ _ _ _) ⟨wo.heap.size, 0, none⟩ 1 1 #[.int .i64 k, .slice a8 pl c8, .int .i64 sp, .int .i64 p0, .int .i64 p1, .int .i64 p2, .int .i64 p3, .slice a7 cl c7, .int .i64 wd, .int .i64 cp, .int .i64 jn, .int .i64 mt, .slice a15 dl c15, .int .i64 ph, .int .i64 fn, .int .i64 m.a, .int .i64 m.b, .int .i64 m.c, .int .i64 m.d, .int .i64 m.x, .int .i64 m.y, .slice a11 bl c11].toList rfl rfl (news_at (by (repeat' (with_reducible first | assumption | (refine Row.at _ _ ?_; (simp; done)) | refine Row.alloc ?_ _ | refine Row.drew ?_ | refine Row.drewN ?_ _ | refine Row.other ?_ (by first | (simp; done) | (simp; omega) | omega) _ | refine Row.up ?_ (by assumption) | refine Row.chg ?_ (by assumption) (by first | (simp; done) | (simp; omega))))) rfl) (by simp [Value.oneCell']) (by decide) (by unfold maxLen; omega) (by omega) (by first | (simp; done) | (simp; omega) | omega) _ rfl ?_; intro g2 cap2 we hown hgr hat hg2; have ze := hgr.size; (try simp at ze); have hQ : Chg [] wo we := Chg.grown (Chg.of_up (show Up wo _ by (repeat' (first | (with_reducible first | exact Up.refl _ | assumption | refine Up.alloc ?_ _ | refine Up.drew ?_ | refine Up.drewN ?_ _ | refine Up.setCell ?_ ?_ _ | refine Up.call ?_ (by assumption)) | go_size)))) hgr (fun k hk => by cases hk); have RBe : Row we w.heap.size #[.int .i64 k, .slice pa pl pc, .int .i64 sp, .int .i64 p0, .int .i64 p1, .int .i64 p2, .int .i64 p3, .slice ca cl cc, .int .i64 wd, .int .i64 cp, .int .i64 jn, .int .i64 mt, .slice da dl dc, .int .i64 ph, .int .i64 fn, .int .i64 m.a, .int .i64 m.b, .int .i64 m.c, .int .i64 m.d, .int .i64 m.x, .int .i64 m.y, .slice ba bl bc] := Row.chg RBo hQ (by simp); have RCe : Row we c #[.int .i64 W, .int .i64 H, .slice none 0 0, .int .i64 n, .slice none 0 0] := Row.chg RCo hQ (by simp); have y2 := RCe.free 2; have v2 := RCe.cell 2 rfl; have lce := RCe.lt; have HOW := Lib.hid (show we.ownsRow w.heap.size 55 22 (.slice (some ⟨g2, 0, none⟩) 1 cap2) 1 #[.int .i64 k, .slice a8 pl c8, .int .i64 sp, .int .i64 p0, .int .i64 p1, .int .i64 p2, .int .i64 p3, .slice a7 cl c7, .int .i64 wd, .int .i64 cp, .int .i64 jn, .int .i64 mt, .slice a15 dl c15, .int .i64 ph, .int .i64 fn, .int .i64 m.a, .int .i64 m.b, .int .i64 m.c, .int .i64 m.d, .int .i64 m.x, .int .i64 m.y, .slice a11 bl c11].toList from (by have h9 := hown; rwa [Nat.zero_add, List.nil_append] at h9)); have HQ := Lib.hid hQ; have HG2 := Lib.hid (show wo.heap.size < g2 from (by rcases hat with h9 | h9; (cases h9); (simp at h9; omega))); clear hown hgr hat hQ)
    refine hK.out _ _ ?_ (fun hHeld => ?_)
    · exact RBe
    clear hK K
    (try simp only [Act.put, lga, lgz, lgs, lsa, lsz, lss])
    refine wpAnyH_take (i := 10) (v := ?_) rfl (by kernel_rfl) (by kernel_rfl) (by kernel_rfl) (fun _ _ _ h => h) (Or.inl ⟨by rfl, ?_⟩) (by assumption) ?_
    rotate_left
    · intro w2 hSw
      (try dsimp only at hSw)
      skip
      go_simp
      (try (with_reducible rfl))
    (try simp only [Act.put, lga, lgz, lgs, lsa, lsz, lss])
    refine wpAnyH_take (i := 11) (v := ?_) rfl (by kernel_rfl) (by kernel_rfl) (by kernel_rfl) (fun _ _ _ h => h) (Or.inl ⟨by rfl, ?_⟩) (by assumption) ?_
    rotate_left
    · intro w2 hSw
      (try dsimp only at hSw)
      skip
      go_simp
      (try (with_reducible rfl))
    (try simp only [Act.put, lga, lgz, lgs, lsa, lsz, lss])
    refine wpAnyH_take (i := 12) (v := ?_) rfl (by kernel_rfl) (by kernel_rfl) (by kernel_rfl) (fun _ _ _ h => h) (Or.inl ⟨by rfl, ?_⟩) (by assumption) ?_
    rotate_left
    · intro w2 hSw
      (try dsimp only at hSw)
      skip
      go_simp
      (try (with_reducible rfl))
    (try simp only [Act.put, lga, lgz, lgs, lsa, lsz, lss])
    refine wpAnyH_ready (rs := [13]) (by decide +kernel) (by simp) ?_
    refine AllReadyH.cons rfl (fun K hK => ?_) (AllReadyH.nil)
    (try simp only [lga, lgz, lgs])
    (go_simp)
    refine hK.out _ _ ?_ (fun hHeld => ?_)
    · exact Row.other RBe (by simp; have := HLC.out; omega) _
    clear hK K
    (try simp only [Act.put, lga, lgz, lgs, lsa, lsz, lss])
    refine wpAnyH_done (by kernel_rfl) ?_ _
    clear hHeld
    go_wp2
    go_ret
    refine ⟨rfl, ⟨k, .slice a8 pl c8, l, sp, p0, p1, p2, p3, .slice a7 cl c7, cs', wd, cp, jn, mt, .slice a15 dl c15, ds, ph, fn, m, .slice a11 bl c11, bs⟩, HDAT.out, g2, cap2, Row.put RCe rfl, ?_, ?_, ?_, ?_⟩
    · have hcx : Chg [c] wo (we.setCell ⟨c, 2, none⟩ (.slice (some ⟨g2, 0, none⟩) 1 cap2)) := (HQ.out.mono (by simp)).setCell (Or.inl (by simp)) _
      exact HIO.out.chg hcx (fun b hb h2 => by have h3 := (HFR.out b hb).1; simp at h2 h3; have := HLC.out; omega)
    · exact ownsRow_setCell_other HOW.out (by simp only [Value.ownBlock, ne_eq, Option.some.injEq]; intro e; have := HG2.out; have := UO.out.size; have := HLC.out; omega) _
    · exact fun b hb => ⟨by have h3 := (HFR.out b hb).1; simp at h3; omega, fun e => by have h3 := (HFR.out b hb).2; have := HG2.out; omega⟩
    · exact (((Chg.of_up (S := [c]) UO.out).call (HQ.out.mono (by simp)) (fun k hk => Or.inl hk)).setCell (Or.inl (by simp)) _)
  · skip
    (try simp only [lga, lgz, lgs])
    (go_simp; go_at_call 49; (with_reducible refine (own_x k pa pl pc sp p0 p1 p2 p3 ca cl cc wd cp jn mt da dl dc ph fn m ba bl bc l cs ds bs _ (HA.out.up (by (repeat' (first | (with_reducible first | exact Up.refl _ | assumption | refine Up.alloc ?_ _ | refine Up.drew ?_ | refine Up.drewN ?_ _ | refine Up.setCell ?_ ?_ _ | refine Up.call ?_ (by assumption)) | go_size)))) HL.out HPN.out HBN.out HDN.out).mono ?_); rintro E wo ⟨a8, c8, a11, c11, a15, c15, a7, c7, cs', rfl, hdat, hio, hfr, uo⟩; have HDAT := Lib.hid hdat; have HIO := Lib.hid hio; have HFR := Lib.hid hfr; have zo := uo.size; (try simp at zo); have RBo : Row wo w.heap.size #[.int .i64 k, .slice pa pl pc, .int .i64 sp, .int .i64 p0, .int .i64 p1, .int .i64 p2, .int .i64 p3, .slice ca cl cc, .int .i64 wd, .int .i64 cp, .int .i64 jn, .int .i64 mt, .slice da dl dc, .int .i64 ph, .int .i64 fn, .int .i64 m.a, .int .i64 m.b, .int .i64 m.c, .int .i64 m.d, .int .i64 m.x, .int .i64 m.y, .slice ba bl bc] := Row.up (show Row _ w.heap.size #[.int .i64 k, .slice pa pl pc, .int .i64 sp, .int .i64 p0, .int .i64 p1, .int .i64 p2, .int .i64 p3, .slice ca cl cc, .int .i64 wd, .int .i64 cp, .int .i64 jn, .int .i64 mt, .slice da dl dc, .int .i64 ph, .int .i64 fn, .int .i64 m.a, .int .i64 m.b, .int .i64 m.c, .int .i64 m.d, .int .i64 m.x, .int .i64 m.y, .slice ba bl bc] by (repeat' (with_reducible first | assumption | (refine Row.at _ _ ?_; (simp; done)) | refine Row.alloc ?_ _ | refine Row.drew ?_ | refine Row.drewN ?_ _ | refine Row.other ?_ (by first | (simp; done) | (simp; omega) | omega) _ | refine Row.up ?_ (by assumption) | refine Row.chg ?_ (by assumption) (by first | (simp; done) | (simp; omega))))) uo; have RCo : Row wo c #[.int .i64 W, .int .i64 H, .slice none 0 0, .int .i64 n, .slice none 0 0] := Row.up (show Row _ c #[.int .i64 W, .int .i64 H, .slice none 0 0, .int .i64 n, .slice none 0 0] from (by have h9 := HR.out; (repeat' (with_reducible first | assumption | (refine Row.at _ _ ?_; (simp; done)) | refine Row.alloc ?_ _ | refine Row.drew ?_ | refine Row.drewN ?_ _ | refine Row.other ?_ (by first | (simp; done) | (simp; omega) | omega) _ | refine Row.up ?_ (by assumption) | refine Row.chg ?_ (by assumption) (by first | (simp; done) | (simp; omega)))))) uo; have x2 : wo.cell? ⟨c, 2, none⟩ = some (.slice none 0 0) := RCo.cell 2 rfl; have lco := RCo.lt; have UO := Lib.hid (show Up w wo by (repeat' (first | (with_reducible first | exact Up.refl _ | assumption | refine Up.alloc ?_ _ | refine Up.drew ?_ | refine Up.drewN ?_ _ | refine Up.setCell ?_ ?_ _ | refine Up.call ?_ (by assumption)) | go_size))); clear hdat hio hfr; (try dsimp only))
    refine hK.out _ _ ?_ (fun hHeld => ?_)
    · exact RBo
    clear hK K
    (try simp only [Act.put, lga, lgz, lgs, lsa, lsz, lss])
    refine wpAnyH_ready (rs := [5, 8]) (by decide +kernel) (by simp) ?_
    refine AllReadyH.cons rfl (fun K hK => ?_) (AllReadyH.cons rfl (fun K hK => ?_) (AllReadyH.nil))
    · skip
      (try simp only [lga, lgz, lgs])
      (go_simp)
      refine hK.out _ _ ?_ (fun hHeld => ?_)
      · exact (show Row _ w.heap.size #[.int .i64 k, .slice pa pl pc, .int .i64 sp, .int .i64 p0, .int .i64 p1, .int .i64 p2, .int .i64 p3, .slice ca cl cc, .int .i64 wd, .int .i64 cp, .int .i64 jn, .int .i64 mt, .slice da dl dc, .int .i64 ph, .int .i64 fn, .int .i64 m.a, .int .i64 m.b, .int .i64 m.c, .int .i64 m.d, .int .i64 m.x, .int .i64 m.y, .slice ba bl bc] from (by (repeat' (with_reducible first | assumption | (refine Row.at _ _ ?_; (simp; done)) | refine Row.alloc ?_ _ | refine Row.drew ?_ | refine Row.drewN ?_ _ | refine Row.other ?_ (by first | (simp; done) | (simp; omega) | omega) _ | refine Row.up ?_ (by assumption) | refine Row.chg ?_ (by assumption) (by first | (simp; done) | (simp; omega))))))
      clear hK K
      (try simp only [Act.put, lga, lgz, lgs, lsa, lsz, lss])
      refine wpAnyH_ready (rs := [8]) (by decide +kernel) (by simp) ?_
      refine AllReadyH.cons rfl (fun K hK => ?_) (AllReadyH.nil)
      (try simp only [lga, lgz, lgs])
      (go_simp)
      refine hK.out _ _ ?_ (fun hHeld => ?_)
      · exact (show Row _ w.heap.size #[.int .i64 k, .slice pa pl pc, .int .i64 sp, .int .i64 p0, .int .i64 p1, .int .i64 p2, .int .i64 p3, .slice ca cl cc, .int .i64 wd, .int .i64 cp, .int .i64 jn, .int .i64 mt, .slice da dl dc, .int .i64 ph, .int .i64 fn, .int .i64 m.a, .int .i64 m.b, .int .i64 m.c, .int .i64 m.d, .int .i64 m.x, .int .i64 m.y, .slice ba bl bc] from (by (repeat' (with_reducible first | assumption | (refine Row.at _ _ ?_; (simp; done)) | refine Row.alloc ?_ _ | refine Row.drew ?_ | refine Row.drewN ?_ _ | refine Row.other ?_ (by first | (simp; done) | (simp; omega) | omega) _ | refine Row.up ?_ (by assumption) | refine Row.chg ?_ (by assumption) (by first | (simp; done) | (simp; omega))))))
      clear hK K
      (try simp only [Act.put, lga, lgz, lgs, lsa, lsz, lss])
      refine wpAnyH_ready (rs := [9]) (by decide +kernel) (by simp) ?_
      refine AllReadyH.cons rfl (fun K hK => ?_) (AllReadyH.nil)
      (try simp only [lga, lgz, lgs])
      (rw [if_pos (by rfl)]; refine wp_append_lies _ (.tmp 17) (.tmp 20) 45 rfl w.heap.size 55 i0 (.agg #[.int .i64 0, .slice none 0 0, .int .i64 0, .int .i64 0, .int .i64 0, .int .i64 0, .int .i64 0, .slice none 0 0, .int .i64 0, .int .i64 0, .int .i64 0, .int .i64 0, .slice none 0 0, .int .i64 0, .int .i64 0, .int .i64 0, .int .i64 0, .int .i64 0, .int .i64 0, .int .i64 0, .int .i64 0, .slice none 0 0]) 22 240 Try.underlying45 hi hz0 hz1 hz2 rfl (by decide) (.slice none 0 0) 0 [] rfl (World.ownsRow_nil _ _ _ _) ⟨wo.heap.size, 0, none⟩ 1 1 #[.int .i64 k, .slice a8 pl c8, .int .i64 sp, .int .i64 p0, .int .i64 p1, .int .i64 p2, .int .i64 p3, .slice a7 cl c7, .int .i64 wd, .int .i64 cp, .int .i64 jn, .int .i64 mt, .slice a15 dl c15, .int .i64 ph, .int .i64 fn, .int .i64 m.a, .int .i64 m.b, .int .i64 m.c, .int .i64 m.d, .int .i64 m.x, .int .i64 m.y, .slice a11 bl c11].toList rfl rfl (news_at (by (repeat' (with_reducible first | assumption | (refine Row.at _ _ ?_; (simp; done)) | refine Row.alloc ?_ _ | refine Row.drew ?_ | refine Row.drewN ?_ _ | refine Row.other ?_ (by first | (simp; done) | (simp; omega) | omega) _ | refine Row.up ?_ (by assumption) | refine Row.chg ?_ (by assumption) (by first | (simp; done) | (simp; omega))))) rfl) (by simp [Value.oneCell']) (by decide) (by unfold maxLen; omega) (by omega) (by first | (simp; done) | (simp; omega) | omega) _ rfl ?_; intro g2 cap2 we hown hgr hat hg2; have ze := hgr.size; (try simp at ze); have hQ : Chg [] wo we := Chg.grown (Chg.of_up (show Up wo _ by (repeat' (first | (with_reducible first | exact Up.refl _ | assumption | refine Up.alloc ?_ _ | refine Up.drew ?_ | refine Up.drewN ?_ _ | refine Up.setCell ?_ ?_ _ | refine Up.call ?_ (by assumption)) | go_size)))) hgr (fun k hk => by cases hk); have RBe : Row we w.heap.size #[.int .i64 k, .slice pa pl pc, .int .i64 sp, .int .i64 p0, .int .i64 p1, .int .i64 p2, .int .i64 p3, .slice ca cl cc, .int .i64 wd, .int .i64 cp, .int .i64 jn, .int .i64 mt, .slice da dl dc, .int .i64 ph, .int .i64 fn, .int .i64 m.a, .int .i64 m.b, .int .i64 m.c, .int .i64 m.d, .int .i64 m.x, .int .i64 m.y, .slice ba bl bc] := Row.chg RBo hQ (by simp); have RCe : Row we c #[.int .i64 W, .int .i64 H, .slice none 0 0, .int .i64 n, .slice none 0 0] := Row.chg RCo hQ (by simp); have y2 := RCe.free 2; have v2 := RCe.cell 2 rfl; have lce := RCe.lt; have HOW := Lib.hid (show we.ownsRow w.heap.size 55 22 (.slice (some ⟨g2, 0, none⟩) 1 cap2) 1 #[.int .i64 k, .slice a8 pl c8, .int .i64 sp, .int .i64 p0, .int .i64 p1, .int .i64 p2, .int .i64 p3, .slice a7 cl c7, .int .i64 wd, .int .i64 cp, .int .i64 jn, .int .i64 mt, .slice a15 dl c15, .int .i64 ph, .int .i64 fn, .int .i64 m.a, .int .i64 m.b, .int .i64 m.c, .int .i64 m.d, .int .i64 m.x, .int .i64 m.y, .slice a11 bl c11].toList from (by have h9 := hown; rwa [Nat.zero_add, List.nil_append] at h9)); have HQ := Lib.hid hQ; have HG2 := Lib.hid (show wo.heap.size < g2 from (by rcases hat with h9 | h9; (cases h9); (simp at h9; omega))); clear hown hgr hat hQ)
      refine hK.out _ _ ?_ (fun hHeld => ?_)
      · exact RBe
      clear hK K
      (try simp only [Act.put, lga, lgz, lgs, lsa, lsz, lss])
      refine wpAnyH_take (i := 10) (v := ?_) rfl (by kernel_rfl) (by kernel_rfl) (by kernel_rfl) (fun _ _ _ h => h) (Or.inl ⟨by rfl, ?_⟩) (by assumption) ?_
      rotate_left
      · intro w2 hSw
        (try dsimp only at hSw)
        skip
        go_simp
        (try (with_reducible rfl))
      (try simp only [Act.put, lga, lgz, lgs, lsa, lsz, lss])
      refine wpAnyH_take (i := 11) (v := ?_) rfl (by kernel_rfl) (by kernel_rfl) (by kernel_rfl) (fun _ _ _ h => h) (Or.inl ⟨by rfl, ?_⟩) (by assumption) ?_
      rotate_left
      · intro w2 hSw
        (try dsimp only at hSw)
        skip
        go_simp
        (try (with_reducible rfl))
      (try simp only [Act.put, lga, lgz, lgs, lsa, lsz, lss])
      refine wpAnyH_take (i := 12) (v := ?_) rfl (by kernel_rfl) (by kernel_rfl) (by kernel_rfl) (fun _ _ _ h => h) (Or.inl ⟨by rfl, ?_⟩) (by assumption) ?_
      rotate_left
      · intro w2 hSw
        (try dsimp only at hSw)
        skip
        go_simp
        (try (with_reducible rfl))
      (try simp only [Act.put, lga, lgz, lgs, lsa, lsz, lss])
      refine wpAnyH_ready (rs := [13]) (by decide +kernel) (by simp) ?_
      refine AllReadyH.cons rfl (fun K hK => ?_) (AllReadyH.nil)
      (try simp only [lga, lgz, lgs])
      (go_simp)
      refine hK.out _ _ ?_ (fun hHeld => ?_)
      · exact Row.other RBe (by simp; have := HLC.out; omega) _
      clear hK K
      (try simp only [Act.put, lga, lgz, lgs, lsa, lsz, lss])
      refine wpAnyH_done (by kernel_rfl) ?_ _
      clear hHeld
      go_wp2
      go_ret
      refine ⟨rfl, ⟨k, .slice a8 pl c8, l, sp, p0, p1, p2, p3, .slice a7 cl c7, cs', wd, cp, jn, mt, .slice a15 dl c15, ds, ph, fn, m, .slice a11 bl c11, bs⟩, HDAT.out, g2, cap2, Row.put RCe rfl, ?_, ?_, ?_, ?_⟩
      · have hcx : Chg [c] wo (we.setCell ⟨c, 2, none⟩ (.slice (some ⟨g2, 0, none⟩) 1 cap2)) := (HQ.out.mono (by simp)).setCell (Or.inl (by simp)) _
        exact HIO.out.chg hcx (fun b hb h2 => by have h3 := (HFR.out b hb).1; simp at h2 h3; have := HLC.out; omega)
      · exact ownsRow_setCell_other HOW.out (by simp only [Value.ownBlock, ne_eq, Option.some.injEq]; intro e; have := HG2.out; have := UO.out.size; have := HLC.out; omega) _
      · exact fun b hb => ⟨by have h3 := (HFR.out b hb).1; simp at h3; omega, fun e => by have h3 := (HFR.out b hb).2; have := HG2.out; omega⟩
      · exact (((Chg.of_up (S := [c]) UO.out).call (HQ.out.mono (by simp)) (fun k hk => Or.inl hk)).setCell (Or.inl (by simp)) _)
    · skip
      (try simp only [lga, lgz, lgs])
      (go_simp)
      refine hK.out _ _ ?_ (fun hHeld => ?_)
      · exact (show Row _ w.heap.size #[.int .i64 k, .slice pa pl pc, .int .i64 sp, .int .i64 p0, .int .i64 p1, .int .i64 p2, .int .i64 p3, .slice ca cl cc, .int .i64 wd, .int .i64 cp, .int .i64 jn, .int .i64 mt, .slice da dl dc, .int .i64 ph, .int .i64 fn, .int .i64 m.a, .int .i64 m.b, .int .i64 m.c, .int .i64 m.d, .int .i64 m.x, .int .i64 m.y, .slice ba bl bc] from (by (repeat' (with_reducible first | assumption | (refine Row.at _ _ ?_; (simp; done)) | refine Row.alloc ?_ _ | refine Row.drew ?_ | refine Row.drewN ?_ _ | refine Row.other ?_ (by first | (simp; done) | (simp; omega) | omega) _ | refine Row.up ?_ (by assumption) | refine Row.chg ?_ (by assumption) (by first | (simp; done) | (simp; omega))))))
      clear hK K
      (try simp only [Act.put, lga, lgz, lgs, lsa, lsz, lss])
      refine wpAnyH_ready (rs := [5]) (by decide +kernel) (by simp) ?_
      refine AllReadyH.cons rfl (fun K hK => ?_) (AllReadyH.nil)
      (try simp only [lga, lgz, lgs])
      (go_simp)
      refine hK.out _ _ ?_ (fun hHeld => ?_)
      · exact (show Row _ w.heap.size #[.int .i64 k, .slice pa pl pc, .int .i64 sp, .int .i64 p0, .int .i64 p1, .int .i64 p2, .int .i64 p3, .slice ca cl cc, .int .i64 wd, .int .i64 cp, .int .i64 jn, .int .i64 mt, .slice da dl dc, .int .i64 ph, .int .i64 fn, .int .i64 m.a, .int .i64 m.b, .int .i64 m.c, .int .i64 m.d, .int .i64 m.x, .int .i64 m.y, .slice ba bl bc] from (by (repeat' (with_reducible first | assumption | (refine Row.at _ _ ?_; (simp; done)) | refine Row.alloc ?_ _ | refine Row.drew ?_ | refine Row.drewN ?_ _ | refine Row.other ?_ (by first | (simp; done) | (simp; omega) | omega) _ | refine Row.up ?_ (by assumption) | refine Row.chg ?_ (by assumption) (by first | (simp; done) | (simp; omega))))))
      clear hK K
      (try simp only [Act.put, lga, lgz, lgs, lsa, lsz, lss])
      refine wpAnyH_ready (rs := [9]) (by decide +kernel) (by simp) ?_
      refine AllReadyH.cons rfl (fun K hK => ?_) (AllReadyH.nil)
      (try simp only [lga, lgz, lgs])
      (rw [if_pos (by rfl)]; refine wp_append_lies _ (.tmp 17) (.tmp 20) 45 rfl w.heap.size 55 i0 (.agg #[.int .i64 0, .slice none 0 0, .int .i64 0, .int .i64 0, .int .i64 0, .int .i64 0, .int .i64 0, .slice none 0 0, .int .i64 0, .int .i64 0, .int .i64 0, .int .i64 0, .slice none 0 0, .int .i64 0, .int .i64 0, .int .i64 0, .int .i64 0, .int .i64 0, .int .i64 0, .int .i64 0, .int .i64 0, .slice none 0 0]) 22 240 Try.underlying45 hi hz0 hz1 hz2 rfl (by decide) (.slice none 0 0) 0 [] rfl (World.ownsRow_nil _ _ _ _) ⟨wo.heap.size, 0, none⟩ 1 1 #[.int .i64 k, .slice a8 pl c8, .int .i64 sp, .int .i64 p0, .int .i64 p1, .int .i64 p2, .int .i64 p3, .slice a7 cl c7, .int .i64 wd, .int .i64 cp, .int .i64 jn, .int .i64 mt, .slice a15 dl c15, .int .i64 ph, .int .i64 fn, .int .i64 m.a, .int .i64 m.b, .int .i64 m.c, .int .i64 m.d, .int .i64 m.x, .int .i64 m.y, .slice a11 bl c11].toList rfl rfl (news_at (by (repeat' (with_reducible first | assumption | (refine Row.at _ _ ?_; (simp; done)) | refine Row.alloc ?_ _ | refine Row.drew ?_ | refine Row.drewN ?_ _ | refine Row.other ?_ (by first | (simp; done) | (simp; omega) | omega) _ | refine Row.up ?_ (by assumption) | refine Row.chg ?_ (by assumption) (by first | (simp; done) | (simp; omega))))) rfl) (by simp [Value.oneCell']) (by decide) (by unfold maxLen; omega) (by omega) (by first | (simp; done) | (simp; omega) | omega) _ rfl ?_; intro g2 cap2 we hown hgr hat hg2; have ze := hgr.size; (try simp at ze); have hQ : Chg [] wo we := Chg.grown (Chg.of_up (show Up wo _ by (repeat' (first | (with_reducible first | exact Up.refl _ | assumption | refine Up.alloc ?_ _ | refine Up.drew ?_ | refine Up.drewN ?_ _ | refine Up.setCell ?_ ?_ _ | refine Up.call ?_ (by assumption)) | go_size)))) hgr (fun k hk => by cases hk); have RBe : Row we w.heap.size #[.int .i64 k, .slice pa pl pc, .int .i64 sp, .int .i64 p0, .int .i64 p1, .int .i64 p2, .int .i64 p3, .slice ca cl cc, .int .i64 wd, .int .i64 cp, .int .i64 jn, .int .i64 mt, .slice da dl dc, .int .i64 ph, .int .i64 fn, .int .i64 m.a, .int .i64 m.b, .int .i64 m.c, .int .i64 m.d, .int .i64 m.x, .int .i64 m.y, .slice ba bl bc] := Row.chg RBo hQ (by simp); have RCe : Row we c #[.int .i64 W, .int .i64 H, .slice none 0 0, .int .i64 n, .slice none 0 0] := Row.chg RCo hQ (by simp); have y2 := RCe.free 2; have v2 := RCe.cell 2 rfl; have lce := RCe.lt; have HOW := Lib.hid (show we.ownsRow w.heap.size 55 22 (.slice (some ⟨g2, 0, none⟩) 1 cap2) 1 #[.int .i64 k, .slice a8 pl c8, .int .i64 sp, .int .i64 p0, .int .i64 p1, .int .i64 p2, .int .i64 p3, .slice a7 cl c7, .int .i64 wd, .int .i64 cp, .int .i64 jn, .int .i64 mt, .slice a15 dl c15, .int .i64 ph, .int .i64 fn, .int .i64 m.a, .int .i64 m.b, .int .i64 m.c, .int .i64 m.d, .int .i64 m.x, .int .i64 m.y, .slice a11 bl c11].toList from (by have h9 := hown; rwa [Nat.zero_add, List.nil_append] at h9)); have HQ := Lib.hid hQ; have HG2 := Lib.hid (show wo.heap.size < g2 from (by rcases hat with h9 | h9; (cases h9); (simp at h9; omega))); clear hown hgr hat hQ)
      refine hK.out _ _ ?_ (fun hHeld => ?_)
      · exact RBe
      clear hK K
      (try simp only [Act.put, lga, lgz, lgs, lsa, lsz, lss])
      refine wpAnyH_take (i := 10) (v := ?_) rfl (by kernel_rfl) (by kernel_rfl) (by kernel_rfl) (fun _ _ _ h => h) (Or.inl ⟨by rfl, ?_⟩) (by assumption) ?_
      rotate_left
      · intro w2 hSw
        (try dsimp only at hSw)
        skip
        go_simp
        (try (with_reducible rfl))
      (try simp only [Act.put, lga, lgz, lgs, lsa, lsz, lss])
      refine wpAnyH_take (i := 11) (v := ?_) rfl (by kernel_rfl) (by kernel_rfl) (by kernel_rfl) (fun _ _ _ h => h) (Or.inl ⟨by rfl, ?_⟩) (by assumption) ?_
      rotate_left
      · intro w2 hSw
        (try dsimp only at hSw)
        skip
        go_simp
        (try (with_reducible rfl))
      (try simp only [Act.put, lga, lgz, lgs, lsa, lsz, lss])
      refine wpAnyH_take (i := 12) (v := ?_) rfl (by kernel_rfl) (by kernel_rfl) (by kernel_rfl) (fun _ _ _ h => h) (Or.inl ⟨by rfl, ?_⟩) (by assumption) ?_
      rotate_left
      · intro w2 hSw
        (try dsimp only at hSw)
        skip
        go_simp
        (try (with_reducible rfl))
      (try simp only [Act.put, lga, lgz, lgs, lsa, lsz, lss])
      refine wpAnyH_ready (rs := [13]) (by decide +kernel) (by simp) ?_
      refine AllReadyH.cons rfl (fun K hK => ?_) (AllReadyH.nil)
      (try simp only [lga, lgz, lgs])
      (go_simp)
      refine hK.out _ _ ?_ (fun hHeld => ?_)
      · exact Row.other RBe (by simp; have := HLC.out; omega) _
      clear hK K
      (try simp only [Act.put, lga, lgz, lgs, lsa, lsz, lss])
      refine wpAnyH_done (by kernel_rfl) ?_ _
      clear hHeld
      go_wp2
      go_ret
      refine ⟨rfl, ⟨k, .slice a8 pl c8, l, sp, p0, p1, p2, p3, .slice a7 cl c7, cs', wd, cp, jn, mt, .slice a15 dl c15, ds, ph, fn, m, .slice a11 bl c11, bs⟩, HDAT.out, g2, cap2, Row.put RCe rfl, ?_, ?_, ?_, ?_⟩
      · have hcx : Chg [c] wo (we.setCell ⟨c, 2, none⟩ (.slice (some ⟨g2, 0, none⟩) 1 cap2)) := (HQ.out.mono (by simp)).setCell (Or.inl (by simp)) _
        exact HIO.out.chg hcx (fun b hb h2 => by have h3 := (HFR.out b hb).1; simp at h2 h3; have := HLC.out; omega)
      · exact ownsRow_setCell_other HOW.out (by simp only [Value.ownBlock, ne_eq, Option.some.injEq]; intro e; have := HG2.out; have := UO.out.size; have := HLC.out; omega) _
      · exact fun b hb => ⟨by have h3 := (HFR.out b hb).1; simp at h3; omega, fun e => by have h3 := (HFR.out b hb).2; have := HG2.out; omega⟩
      · exact (((Chg.of_up (S := [c]) UO.out).call (HQ.out.mono (by simp)) (fun k hk => Or.inl hk)).setCell (Or.inl (by simp)) _)

end Go.Proofs.Yteddlahklilncaa.Pt
end

section
namespace Go.Proofs.Yteddlahklilncaa.Pt
open Go.ChangeShapes Go.WideShapes Go.ChangeAt Go.RowKit
open Go.Proofs.Yteddlahklilncaa.FixM (fits)
open Go.Proofs.Yteddlahklilncaa.PathM (Seg sound)
open Go.Proofs.Yteddlahklilncaa.MatM (M6)
set_option linter.unusedVariables false
set_option linter.unusedSimpArgs false
open Go.Proofs.Yteddlahklilncaa.PathM (segCells)
/-- a slice of one item that is owned -/
structure One1 (w : World) (base g cap : Nat) (i : Item) : Prop where
  row : w.ownsRow base 55 22 (.slice (some ⟨g, 0, none⟩) 1 cap) 1 i.cells
  it : ItemO w i
  ne : ∀ b ∈ i.bl, b ≠ g
  lo : ∀ b ∈ i.bl, base ≤ b ∧ b < w.heap.size
theorem One1.chg {S : List Nat} {w w1 : World} {base g cap : Nat} {i : Item} (h : One1 w base g cap i) (hc : Chg S w w1) (hn : ∀ b ∈ S, b < base) : One1 w1 base g cap i := by
  have hg : g ∉ S := fun h2 => by have := hn g h2; have := (h.row.lt g rfl).1; omega
  refine ⟨?_, h.it.chg hc (fun b hb h2 => by have := hn b h2; have := (h.lo b hb).1; omega), h.ne, fun b hb => ⟨(h.lo b hb).1, Nat.lt_of_lt_of_le (h.lo b hb).2 hc.size⟩⟩
  have h1 := owned_chg (owned_new h.row).1 hc (fun k hk => by simp only [Value.ownBlock, Option.some.injEq] at hk; subst hk; exact hg)
  refine ⟨h1.1, ?_⟩
  rcases h1.2 with h2 | ⟨g', cap', cur, hv2, _, hr⟩
  · exact Or.inl h2
  · exact Or.inr ⟨g', cap', cur, hv2, by injection hv2 with e; injection e with e; injection e with e; subst e; exact (h.row.lt g rfl).1, hr⟩
theorem One1.range {w : World} {base g cap : Nat} {i : Item} (h : One1 w base g cap i) : w.rangeAt g 0 i.cells.toArray.toList := fun j u hj => by
  have := h.row.cells (g := g) rfl j u (by simpa using hj)
  rw [add_plain, Nat.zero_add] at this
  rw [Nat.zero_add]
  exact this

set_option maxRecDepth 8000 in
set_option maxHeartbeats 8000000 in
theorem owns_x (k : Int) (pa : Option Addr) (pl pc : Nat) (sp p0 p1 p2 p3 : Int) (ca : Option Addr) (cl cc : Nat) (wd cp jn mt : Int) (da : Option Addr) (dl dc : Nat) (ph fn : Int) (m : M6) (ba : Option Addr) (bl bc : Nat) (l : List Seg) (cs : List Clip) (ds bs : List Int) (base g cap : Nat) (w : World) (ho : One1 w base g cap ⟨k, .slice pa pl pc, l, sp, p0, p1, p2, p3, .slice ca cl cc, cs, wd, cp, jn, mt, .slice da dl dc, ds, ph, fn, m, .slice ba bl bc, bs⟩) (hl : Lens (Item.dat ⟨k, .slice pa pl pc, l, sp, p0, p1, p2, p3, .slice ca cl cc, cs, wd, cp, jn, mt, .slice da dl dc, ds, ph, fn, m, .slice ba bl bc, bs⟩)) (hp : l.length = pl) (hb : bs.length = bl) (hd : ds.length = dl) :
    Calls Try.prog 33 #[.slice (some ⟨g, 0, none⟩) 1 cap] w fun E w' => ∃ g2 cap2, E = .returned (.slice (some ⟨g2, 0, none⟩) 1 cap2) ∧ ∃ j : Item, One1 w' w.heap.size g2 cap2 j ∧ j.dat = Item.dat ⟨k, .slice pa pl pc, l, sp, p0, p1, p2, p3, .slice ca cl cc, cs, wd, cp, jn, mt, .slice da dl dc, ds, ph, fn, m, .slice ba bl bc, bs⟩ ∧ Up w w' := by
  obtain ⟨i0, hi, hz0, hz1, hz2⟩ := info_parts3 infoIt3
  have HA := Lib.hid ho.it.a
  have HRG := Lib.hid (show w.rangeAt g 0 #[.int .i64 k, .slice pa pl pc, .int .i64 sp, .int .i64 p0, .int .i64 p1, .int .i64 p2, .int .i64 p3, .slice ca cl cc, .int .i64 wd, .int .i64 cp, .int .i64 jn, .int .i64 mt, .slice da dl dc, .int .i64 ph, .int .i64 fn, .int .i64 m.a, .int .i64 m.b, .int .i64 m.c, .int .i64 m.d, .int .i64 m.x, .int .i64 m.y, .slice ba bl bc].toList from ho.range)
  have hgl : g < w.heap.size := (ho.row.lt g rfl).2
  have HL := Lib.hid hl
  have HPN := Lib.hid hp
  have HBN := Lib.hid hb
  have HDN := Lib.hid hd
  clear ho hl hp hb hd
  go_enter Try.func33, Try.ntmps33
  go_wp2_with (first
    | (refine wpList_make_own _ rfl _ _ 45 rfl w.heap.size 55 i0 (.agg #[.int .i64 0, .slice none 0 0, .int .i64 0, .int .i64 0, .int .i64 0, .int .i64 0, .int .i64 0, .slice none 0 0, .int .i64 0, .int .i64 0, .int .i64 0, .int .i64 0, .slice none 0 0, .int .i64 0, .int .i64 0, .int .i64 0, .int .i64 0, .int .i64 0, .int .i64 0, .int .i64 0, .int .i64 0, .slice none 0 0]) 22 Try.underlying45 hi hz0 hz1 .i64 .i64 _ 1 rfl rfl rfl (by rw [hz2]; omega) (by unfold maxLen; omega) (by simp) ?_; intro w1 hown1 hgr1; have HOM := Lib.hid hown1; have u1 : Up w w1 := grown_up (Up.refl _) hgr1 (fun k hk => by cases hk); have z1 := hgr1.size; have HM1 := Lib.hid (hown1.lt _ rfl); clear hown1 hgr1))
  refine wp_loop_rounds 2 ?_
  rw [rounds_succ]
  go_wp2_with (first
    | ((refine wpList_load_mid rfl 55 (.tmp 13) rfl g 0 (by first | rfl | simp) #[.int .i64 k, .slice pa pl pc, .int .i64 sp, .int .i64 p0, .int .i64 p1, .int .i64 p2, .int .i64 p3, .slice ca cl cc, .int .i64 wd, .int .i64 cp, .int .i64 jn, .int .i64 mt, .slice da dl dc, .int .i64 ph, .int .i64 fn, .int .i64 m.a, .int .i64 m.b, .int .i64 m.c, .int .i64 m.d, .int .i64 m.x, .int .i64 m.y, .slice ba bl bc].toList _ (fun q u hq => ((show Up w _ by (repeat' (first | (with_reducible first | exact Up.refl _ | assumption | refine Up.alloc ?_ _ | refine Up.drew ?_ | refine Up.drewN ?_ _ | refine Up.setCell ?_ ?_ _ | refine Up.call ?_ (by assumption)) | go_size))).cells.1 g (0 + q) hgl).trans (HRG.out q u hq)) Try.underlying55 rfl infoItem ?_); (try simp only [Array.toArray_toList]))
    | ((refine wpList_store_Row rfl 55 (.tmp 5) _ rfl w1.heap.size #[.int .i64 k, .slice pa pl pc, .int .i64 sp, .int .i64 p0, .int .i64 p1, .int .i64 p2, .int .i64 p3, .slice ca cl cc, .int .i64 wd, .int .i64 cp, .int .i64 jn, .int .i64 mt, .slice da dl dc, .int .i64 ph, .int .i64 fn, .int .i64 m.a, .int .i64 m.b, .int .i64 m.c, .int .i64 m.d, .int .i64 m.x, .int .i64 m.y, .slice ba bl bc] rfl rfl #[.int .i64 0, .slice none 0 0, .int .i64 0, .int .i64 0, .int .i64 0, .int .i64 0, .int .i64 0, .slice none 0 0, .int .i64 0, .int .i64 0, .int .i64 0, .int .i64 0, .slice none 0 0, .int .i64 0, .int .i64 0, .int .i64 0, .int .i64 0, .int .i64 0, .int .i64 0, .int .i64 0, .int .i64 0, .slice none 0 0] (by (repeat' (with_reducible first | assumption | (refine Row.at _ _ ?_; (simp; done)) | refine Row.alloc ?_ _ | refine Row.drew ?_ | refine Row.drewN ?_ _ | refine Row.other ?_ (by first | (simp; done) | (simp; omega) | omega) _ | refine Row.up ?_ (by assumption) | refine Row.chg ?_ (by assumption) (by first | (simp; done) | (simp; omega))))) infoItem rfl rfl (by simp [Value.oneCell']) ?_); intro w3 hr3 hc3; have z3 := hc3.size; (try simp at z3); have HU3 := Lib.hid (show Up w1 w3 from (show Chg [] w1 w3 by (repeat' (first | (with_reducible first | exact Chg.refl _ _ | assumption | refine Chg.alloc ?_ _ | refine Chg.drew ?_ | refine Chg.drewN ?_ _ | refine Chg.setCell ?_ ?_ _ | refine Chg.upc ?_ (by assumption) | refine Chg.call ?_ (by assumption) ?_) | (refine Or.inl ?_; (simp; done)) | (simp; done) | (simp; omega) | omega))).up))
    | (refine wpList_load_Row rfl 55 (.tmp 5) rfl w1.heap.size rfl #[.int .i64 k, .slice pa pl pc, .int .i64 sp, .int .i64 p0, .int .i64 p1, .int .i64 p2, .int .i64 p3, .slice ca cl cc, .int .i64 wd, .int .i64 cp, .int .i64 jn, .int .i64 mt, .slice da dl dc, .int .i64 ph, .int .i64 fn, .int .i64 m.a, .int .i64 m.b, .int .i64 m.c, .int .i64 m.d, .int .i64 m.x, .int .i64 m.y, .slice ba bl bc] _ hr3 Try.underlying55 rfl infoItem rfl ?_)
    | (go_at_call 49; ((with_reducible refine (own_x k pa pl pc sp p0 p1 p2 p3 ca cl cc wd cp jn mt da dl dc ph fn m ba bl bc l cs ds bs _ (HA.out.up (Up.call u1 HU3.out)) HL.out HPN.out HBN.out HDN.out).mono ?_); rintro E wo ⟨a8, c8, a11, c11, a15, c15, a7, c7, cs', rfl, hdat, hio, hfr, uo⟩; have HDAT := Lib.hid hdat; have HIO := Lib.hid hio; have HFR := Lib.hid hfr; have zo := uo.size; have U3O := Lib.hid uo; clear hdat hio hfr))
    | (at_builtin; go_loud (refine wpList_append_lies _ rfl (.tmp 15) (.tmp 18) 45 rfl w.heap.size 55 i0 (.agg #[.int .i64 0, .slice none 0 0, .int .i64 0, .int .i64 0, .int .i64 0, .int .i64 0, .int .i64 0, .slice none 0 0, .int .i64 0, .int .i64 0, .int .i64 0, .int .i64 0, .slice none 0 0, .int .i64 0, .int .i64 0, .int .i64 0, .int .i64 0, .int .i64 0, .int .i64 0, .int .i64 0, .int .i64 0, .slice none 0 0]) 22 240 Try.underlying45 hi hz0 hz1 hz2 rfl (by decide) (.slice (some ⟨w.heap.size, 0, none⟩) 0 1) 0 [] rfl (raw_up HOM.out (Up.alloc (Up.call HU3.out U3O.out) _)) ⟨wo.heap.size, 0, none⟩ 1 1 #[.int .i64 k, .slice a8 pl c8, .int .i64 sp, .int .i64 p0, .int .i64 p1, .int .i64 p2, .int .i64 p3, .slice a7 cl c7, .int .i64 wd, .int .i64 cp, .int .i64 jn, .int .i64 mt, .slice a15 dl c15, .int .i64 ph, .int .i64 fn, .int .i64 m.a, .int .i64 m.b, .int .i64 m.c, .int .i64 m.d, .int .i64 m.x, .int .i64 m.y, .slice a11 bl c11].toList rfl rfl (news_at (by (repeat' (with_reducible first | assumption | (refine Row.at _ _ ?_; (simp; done)) | refine Row.alloc ?_ _ | refine Row.drew ?_ | refine Row.drewN ?_ _ | refine Row.other ?_ (by first | (simp; done) | (simp; omega) | omega) _ | refine Row.up ?_ (by assumption) | refine Row.chg ?_ (by assumption) (by first | (simp; done) | (simp; omega))))) rfl) (by simp [Value.oneCell']) (by decide) (by unfold maxLen; omega) (by omega) (by first | (simp; done) | (simp; omega) | omega) _ rfl ?_; intro g2 cap2 we hown hgr hat hg2; have ze := hgr.size; (try simp at ze); have HQ := Lib.hid (show Chg [w.heap.size] wo we from Chg.grown (Chg.of_up (Up.alloc (Up.refl wo) _)) hgr (fun k hk => Or.inl (by simp only [Value.ownBlock, Option.some.injEq] at hk; simp [hk]))); have HOW := Lib.hid (show we.ownsRow w.heap.size 55 22 (.slice (some ⟨g2, 0, none⟩) 1 cap2) 1 #[.int .i64 k, .slice a8 pl c8, .int .i64 sp, .int .i64 p0, .int .i64 p1, .int .i64 p2, .int .i64 p3, .slice a7 cl c7, .int .i64 wd, .int .i64 cp, .int .i64 jn, .int .i64 mt, .slice a15 dl c15, .int .i64 ph, .int .i64 fn, .int .i64 m.a, .int .i64 m.b, .int .i64 m.c, .int .i64 m.d, .int .i64 m.x, .int .i64 m.y, .slice a11 bl c11].toList from (by have h9 := hown; rwa [Nat.zero_add, List.nil_append] at h9)); have HG2 := Lib.hid (show g2 = w.heap.size ∨ wo.heap.size ≤ g2 from (by rcases hat with h9 | h9; (simp only [Value.ownBlock, Option.some.injEq] at h9; exact Or.inl h9.symm); (simp at h9; exact Or.inr (by omega)))); clear hown hgr hat)))
  rw [rounds_succ]
  go_wp2
  go_ret
  have zz := u1.size
  have zw3 := HU3.out.size
  have hm := HM1.out
  refine ⟨g2, cap2, rfl, ⟨k, .slice a8 pl c8, l, sp, p0, p1, p2, p3, .slice a7 cl c7, cs', wd, cp, jn, mt, .slice a15 dl c15, ds, ph, fn, m, .slice a11 bl c11, bs⟩, ⟨HOW.out, HIO.out.chg HQ.out (fun b hb h2 => ?_), fun b hb e => ?_, fun b hb => ?_⟩, HDAT.out, ?_⟩
  · have h3 := (HFR.out b hb).1
    simp at h2
    omega
  · have h3 := HFR.out b hb
    rcases HG2.out with h4 | h4
    · omega
    · omega
  · have h3 := HFR.out b hb
    exact ⟨by omega, by omega⟩
  · exact ((Chg.of_up (S := []) (Up.call u1 (Up.call HU3.out U3O.out))).call HQ.out (fun k hk => Or.inr (by simp at hk; omega))).up

theorem owns_item (i : Item) (base g cap : Nat) (w : World) (ho : One1 w base g cap i) (hl : Lens i.dat) :
    Calls Try.prog 33 #[.slice (some ⟨g, 0, none⟩) 1 cap] w fun E w' => ∃ g2 cap2, E = .returned (.slice (some ⟨g2, 0, none⟩) 1 cap2) ∧ ∃ j : Item, One1 w' w.heap.size g2 cap2 j ∧ j.dat = i.dat ∧ Up w w' := by
  obtain ⟨k, pv, l, sp, p0, p1, p2, p3, cv, cs, wd, cp, jn, mt, dv, ds, ph, fn, m, bv, bs⟩ := i
  obtain ⟨pa, pc, e1⟩ := owned_val ho.it.pv
  obtain ⟨ca, cc, e2⟩ := owned_val ho.it.cv
  obtain ⟨da, dc, e3⟩ := owned_val ho.it.dv
  obtain ⟨ba, bc, e4⟩ := owned_val ho.it.bv
  simp only at e1 e2 e3 e4
  subst e1 e2 e3 e4
  exact owns_x k pa l.length pc sp p0 p1 p2 p3 ca cs.length cc wd cp jn mt da ds.length dc ph fn m ba bs.length bc l cs ds bs base g cap w ho hl rfl rfl rfl
theorem items_one (W H n : Int) (sv : Value) (c : Nat) (i : Item) (base g cap : Nat) (w : World) (hr : Row w c #[.int .i64 W, .int .i64 H, .slice (some ⟨g, 0, none⟩) 1 cap, .int .i64 n, sv]) (ho : One1 w base g cap i) (hl : Lens i.dat) :
    Calls Try.prog 14 #[.pointer (some ⟨c, 0, none⟩)] w fun E w' => ∃ g2 cap2, E = .returned (.slice (some ⟨g2, 0, none⟩) 1 cap2) ∧ ∃ j : Item, One1 w' w.heap.size g2 cap2 j ∧ j.dat = i.dat ∧ Up w w' := by
  have HO := Lib.hid ho
  have HL := Lib.hid hl
  have q2 : w.cell? ⟨c, 2, none⟩ = some (.slice (some ⟨g, 0, none⟩) 1 cap) := hr.cell 2 rfl
  have lc := hr.lt
  clear hr ho hl
  go_enter Try.func14, Try.ntmps14
  go_wp2_with (go_at_call 33; ((with_reducible refine (owns_item i base g cap _ HO.out HL.out).mono ?_); rintro E w1 ⟨g2, cap2, rfl, j, h1, h2, h3⟩; have HX := Lib.hid (And.intro h1 (And.intro h2 h3)); clear h1 h2 h3))
  go_ret
  exact ⟨g2, cap2, rfl, j, HX.out⟩

end Go.Proofs.Yteddlahklilncaa.Pt
end

section
namespace Go.Proofs.Yteddlahklilncaa.Pt
open List renaming getElem_toArray → lga, getElem_cons_zero → lgz, getElem_cons_succ → lgs, setIfInBounds_toArray → lsa, set_cons_zero → lsz, set_cons_succ → lss
open Go.ChangeShapes Go.WideShapes Go.ChangeAt Go.RowKit
open Go.Proofs.Yteddlahklilncaa.FixM (fits)
open Go.Proofs.Yteddlahklilncaa.PathM (Seg sound)
open Go.Proofs.Yteddlahklilncaa.MatM (M6)
set_option linter.unusedVariables false
set_option linter.unusedSimpArgs false

theorem c3i_of {w : World} {c g cap : Nat} {W H : Int} {x y : Value} (h : Row w c #[.int .i64 W, .int .i64 H, .slice (some ⟨g, 0, none⟩) 1 cap, x, y]) : w.cell? ⟨c, 0, none⟩ = some (.int .i64 W) ∧ w.cell? ⟨c, 1, none⟩ = some (.int .i64 H) ∧ w.cell? ⟨c, 2, none⟩ = some (.slice (some ⟨g, 0, none⟩) 1 cap) := ⟨h.cell 0 rfl, h.cell 1 rfl, h.cell 2 rfl⟩

set_option maxRecDepth 8000 in
set_option maxHeartbeats 2000000 in
theorem show_one (W H n : Int) (hn : 0 < n) (c g cap : Nat) (w : World) (h : Row w c #[.int .i64 W, .int .i64 H, .slice (some ⟨g, 0, none⟩) 1 cap, .int .i64 n, .slice none 0 0]) :
    Calls Try.prog 19 #[.pointer (some ⟨c, 0, none⟩)] w fun E w' => E = .returned (.int .i64 0) ∧ ∃ gp capp : Nat, Row w' c #[.int .i64 W, .int .i64 H, .slice none 0 0, .int .i64 n, .slice (some ⟨gp, 0, none⟩) 1 capp] ∧ w'.ownsRow w.heap.size 59 3 (.slice (some ⟨gp, 0, none⟩) 1 capp) 1 #[.int .i64 W, .int .i64 H, .slice (some ⟨g, 0, none⟩) 1 cap].toList ∧ Chg [c] w w' := by
  obtain ⟨i0, hi, hz0, hz1, hz2⟩ := info_parts3 infoPg
  have HR := Lib.hid h
  have HLC := Lib.hid h.lt
  have q0 : w.cell? ⟨c, 0, none⟩ = some (.int .i64 W) := h.cell 0 rfl
  have q1 : w.cell? ⟨c, 1, none⟩ = some (.int .i64 H) := h.cell 1 rfl
  have q2 : w.cell? ⟨c, 2, none⟩ = some (.slice (some ⟨g, 0, none⟩) 1 cap) := h.cell 2 rfl
  have q3 : w.cell? ⟨c, 3, none⟩ = some (.int .i64 n) := h.cell 3 rfl
  have q4 : w.cell? ⟨c, 4, none⟩ = some (.slice none 0 0) := h.cell 4 rfl
  have t1 : decide (n ≤ 0) = false := decide_eq_false (by omega)
  have lc := h.lt
  have lc1 : c < w.heap.size + 1 := Nat.lt_succ_of_lt lc
  clear h
  go_enter Try.func19, Try.ntmps19
  go_wp2
  refine wp_region_held_drew (S := fun w' => w'.cell? ⟨c, 3, none⟩ = some (.int .i64 n) ∧ w'.cell? ⟨c, 4, none⟩ = some (.slice none 0 0)) (by kernel_rfl) ?_ (fun hHeld => ?_)
  · exact ⟨q3, q4⟩
  refine wpAnyH_take (i := 0) (v := ?_) rfl (by kernel_rfl) (by kernel_rfl) (by kernel_rfl) (fun _ _ _ h => h) (Or.inl ⟨by rfl, ?_⟩) (by assumption) ?_
  rotate_left
  · intro w2 hSw
    (try dsimp only at hSw)
    (try (obtain ⟨s3, s4⟩ := hSw))
    go_simp
    (try (with_reducible rfl))
  (try simp only [Act.put, lga, lgz, lgs, lsa, lsz, lss])
  refine wpAnyH_take (i := 1) (v := ?_) rfl (by kernel_rfl) (by kernel_rfl) (by kernel_rfl) (fun _ _ _ h => h) (Or.inl ⟨by rfl, ?_⟩) (by assumption) ?_
  rotate_left
  · intro w2 hSw
    (try dsimp only at hSw)
    (try (obtain ⟨s3, s4⟩ := hSw))
    go_simp
    (try (with_reducible rfl))
  (try simp only [Act.put, lga, lgz, lgs, lsa, lsz, lss])
  refine wpAnyH_take (i := 2) (v := ?_) rfl (by kernel_rfl) (by kernel_rfl) (by kernel_rfl) (fun _ _ _ h => h) (Or.inl ⟨by rfl, ?_⟩) (by assumption) ?_
  rotate_left
  · intro w2 hSw
    (try dsimp only at hSw)
    (try (obtain ⟨s3, s4⟩ := hSw))
    go_simp
    (try (with_reducible rfl))
  (try simp only [Act.put, lga, lgz, lgs, lsa, lsz, lss])
  refine wpAnyH_take (i := 3) (v := ?_) rfl (by kernel_rfl) (by kernel_rfl) (by kernel_rfl) (fun _ _ _ h => h) (Or.inl ⟨by rfl, ?_⟩) (by assumption) ?_
  rotate_left
  · intro w2 hSw
    (try dsimp only at hSw)
    (try (obtain ⟨s3, s4⟩ := hSw))
    go_simp
    (try (with_reducible rfl))
  (try simp only [Act.put, lga, lgz, lgs, lsa, lsz, lss])
  refine wpAnyH_take (i := 4) (v := ?_) rfl (by kernel_rfl) (by kernel_rfl) (by kernel_rfl) (fun _ _ _ h => h) (Or.inl ⟨by rfl, ?_⟩) (by assumption) ?_
  rotate_left
  · intro w2 hSw
    (try dsimp only at hSw)
    (try (obtain ⟨s3, s4⟩ := hSw))
    go_simp
    (try (with_reducible rfl))
  (try simp only [Act.put, lga, lgz, lgs, lsa, lsz, lss])
  refine wpAnyH_take (i := 5) (v := ?_) rfl (by kernel_rfl) (by kernel_rfl) (by kernel_rfl) (fun _ _ _ h => h) (Or.inl ⟨by rfl, ?_⟩) (by assumption) ?_
  rotate_left
  · intro w2 hSw
    (try dsimp only at hSw)
    (try (obtain ⟨s3, s4⟩ := hSw))
    go_simp
    (try (with_reducible rfl))
  (try simp only [Act.put, lga, lgz, lgs, lsa, lsz, lss])
  refine wpAnyH_take (i := 6) (v := ?_) rfl (by kernel_rfl) (by kernel_rfl) (by kernel_rfl) (fun _ _ _ h => h) (Or.inl ⟨by rfl, ?_⟩) (by assumption) ?_
  rotate_left
  · intro w2 hSw
    (try dsimp only at hSw)
    (try (obtain ⟨s3, s4⟩ := hSw))
    go_simp
    (try (with_reducible rfl))
  (try simp only [Act.put, lga, lgz, lgs, lsa, lsz, lss])
  refine wpAnyH_take (i := 7) (v := ?_) rfl (by kernel_rfl) (by kernel_rfl) (by kernel_rfl) (fun _ _ _ h => h) (Or.inl ⟨by rfl, ?_⟩) (by assumption) ?_
  rotate_left
  · intro w2 hSw
    (try dsimp only at hSw)
    (try (obtain ⟨s3, s4⟩ := hSw))
    go_simp
    (try (with_reducible rfl))
  (try simp only [Act.put, lga, lgz, lgs, lsa, lsz, lss])
  refine wpAnyH_take (i := 8) (v := ?_) rfl (by kernel_rfl) (by kernel_rfl) (by kernel_rfl) (fun _ _ _ h => h) (Or.inl ⟨by rfl, ?_⟩) (by assumption) ?_
  rotate_left
  · intro w2 hSw
    (try dsimp only at hSw)
    (try (obtain ⟨s3, s4⟩ := hSw))
    go_simp
    (try (with_reducible rfl))
  (try simp only [Act.put, lga, lgz, lgs, lsa, lsz, lss])
  refine wpAnyH_take (i := 9) (v := ?_) rfl (by kernel_rfl) (by kernel_rfl) (by kernel_rfl) (fun _ _ _ h => h) (Or.inl ⟨by rfl, ?_⟩) (by assumption) ?_
  rotate_left
  · intro w2 hSw
    (try dsimp only at hSw)
    (try (obtain ⟨s3, s4⟩ := hSw))
    go_simp
    (try (with_reducible rfl))
  (try simp only [Act.put, lga, lgz, lgs, lsa, lsz, lss])
  refine wpAnyH_take (i := 10) (v := ?_) rfl (by kernel_rfl) (by kernel_rfl) (by kernel_rfl) (fun _ _ _ h => h) (Or.inl ⟨by rfl, ?_⟩) (by assumption) ?_
  rotate_left
  · intro w2 hSw
    (try dsimp only at hSw)
    (try (obtain ⟨s3, s4⟩ := hSw))
    go_simp
    (try (with_reducible rfl))
  (try simp only [Act.put, lga, lgz, lgs, lsa, lsz, lss])
  refine wpAnyH_done (by kernel_rfl) ?_ _
  clear hHeld
  go_wp2
  refine wp_region_held_drew (S := fun w' => w'.cell? ⟨c, 0, none⟩ = some (.int .i64 W) ∧ w'.cell? ⟨c, 1, none⟩ = some (.int .i64 H) ∧ w'.cell? ⟨c, 2, none⟩ = some (.slice (some ⟨g, 0, none⟩) 1 cap)) (by kernel_rfl) ?_ (fun hHeld => ?_)
  · exact c3i_of (show Row _ c #[.int .i64 W, .int .i64 H, .slice (some ⟨g, 0, none⟩) 1 cap, .int .i64 n, .slice none 0 0] from HR.out.up (by (repeat' (first | (with_reducible first | exact Up.refl _ | assumption | refine Up.alloc ?_ _ | refine Up.drew ?_ | refine Up.drewN ?_ _ | refine Up.setCell ?_ ?_ _ | refine Up.call ?_ (by assumption)) | go_size))))
  refine wpAnyH_take (i := 0) (v := ?_) rfl (by kernel_rfl) (by kernel_rfl) (by kernel_rfl) (fun _ _ _ h => h) (Or.inl ⟨by rfl, ?_⟩) (by assumption) ?_
  rotate_left
  · intro w2 hSw
    (try dsimp only at hSw)
    (try (obtain ⟨s0, s1, s2⟩ := hSw))
    go_simp
    (try (with_reducible rfl))
  (try simp only [Act.put, lga, lgz, lgs, lsa, lsz, lss])
  refine wpAnyH_take (i := 1) (v := ?_) rfl (by kernel_rfl) (by kernel_rfl) (by kernel_rfl) (fun _ _ _ h => h) (Or.inl ⟨by rfl, ?_⟩) (by assumption) ?_
  rotate_left
  · intro w2 hSw
    (try dsimp only at hSw)
    (try (obtain ⟨s0, s1, s2⟩ := hSw))
    go_simp
    (try (with_reducible rfl))
  (try simp only [Act.put, lga, lgz, lgs, lsa, lsz, lss])
  refine wpAnyH_take (i := 2) (v := ?_) rfl (by kernel_rfl) (by kernel_rfl) (by kernel_rfl) (fun _ _ _ h => h) (Or.inl ⟨by rfl, ?_⟩) (by assumption) ?_
  rotate_left
  · intro w2 hSw
    (try dsimp only at hSw)
    (try (obtain ⟨s0, s1, s2⟩ := hSw))
    go_simp
    (try (with_reducible rfl))
  (try simp only [Act.put, lga, lgz, lgs, lsa, lsz, lss])
  refine wpAnyH_take (i := 3) (v := ?_) rfl (by kernel_rfl) (by kernel_rfl) (by kernel_rfl) (fun _ _ _ h => h) (Or.inl ⟨by rfl, ?_⟩) (by assumption) ?_
  rotate_left
  · intro w2 hSw
    (try dsimp only at hSw)
    (try (obtain ⟨s0, s1, s2⟩ := hSw))
    go_simp
    (try (with_reducible rfl))
  (try simp only [Act.put, lga, lgz, lgs, lsa, lsz, lss])
  refine wpAnyH_take (i := 5) (v := ?_) rfl (by kernel_rfl) (by kernel_rfl) (by kernel_rfl) (fun _ _ _ h => h) (Or.inl ⟨by rfl, ?_⟩) (by assumption) ?_
  rotate_left
  · intro w2 hSw
    (try dsimp only at hSw)
    (try (obtain ⟨s0, s1, s2⟩ := hSw))
    go_simp
    (try (with_reducible rfl))
  (try simp only [Act.put, lga, lgz, lgs, lsa, lsz, lss])
  refine wpAnyH_take (i := 6) (v := ?_) rfl (by kernel_rfl) (by kernel_rfl) (by kernel_rfl) (fun _ _ _ h => h) (Or.inl ⟨by rfl, ?_⟩) (by assumption) ?_
  rotate_left
  · intro w2 hSw
    (try dsimp only at hSw)
    (try (obtain ⟨s0, s1, s2⟩ := hSw))
    go_simp
    (try (with_reducible rfl))
  (try simp only [Act.put, lga, lgz, lgs, lsa, lsz, lss])
  refine wpAnyH_take (i := 7) (v := ?_) rfl (by kernel_rfl) (by kernel_rfl) (by kernel_rfl) (fun _ _ _ h => h) (Or.inl ⟨by rfl, ?_⟩) (by assumption) ?_
  rotate_left
  · intro w2 hSw
    (try dsimp only at hSw)
    (try (obtain ⟨s0, s1, s2⟩ := hSw))
    go_simp
    (try (with_reducible rfl))
  (try simp only [Act.put, lga, lgz, lgs, lsa, lsz, lss])
  refine wpAnyH_take (i := 8) (v := ?_) rfl (by kernel_rfl) (by kernel_rfl) (by kernel_rfl) (fun _ _ _ h => h) (Or.inl ⟨by rfl, ?_⟩) (by assumption) ?_
  rotate_left
  · intro w2 hSw
    (try dsimp only at hSw)
    (try (obtain ⟨s0, s1, s2⟩ := hSw))
    go_simp
    (try (with_reducible rfl))
  (try simp only [Act.put, lga, lgz, lgs, lsa, lsz, lss])
  refine wpAnyH_ready (rs := [4, 9]) (by decide +kernel) (by simp) ?_
  refine AllReadyH.cons rfl (fun K hK => ?_) (AllReadyH.cons rfl (fun K hK => ?_) (AllReadyH.nil))
  · skip
    (try simp only [lga, lgz, lgs])
    (go_simp)
    refine hK.out _ _ ?_ (fun hHeld => ?_)
    · exact c3i_of (show Row _ c #[.int .i64 W, .int .i64 H, .slice (some ⟨g, 0, none⟩) 1 cap, .int .i64 n, .slice none 0 0] from HR.out.up (by (repeat' (first | (with_reducible first | exact Up.refl _ | assumption | refine Up.alloc ?_ _ | refine Up.drew ?_ | refine Up.drewN ?_ _ | refine Up.setCell ?_ ?_ _ | refine Up.call ?_ (by assumption)) | go_size))))
    clear hK K
    (try simp only [Act.put, lga, lgz, lgs, lsa, lsz, lss])
    refine wpAnyH_ready (rs := [9]) (by decide +kernel) (by simp) ?_
    refine AllReadyH.cons rfl (fun K hK => ?_) (AllReadyH.nil)
    (try simp only [lga, lgz, lgs])
    (go_simp)
    refine hK.out _ _ ?_ (fun hHeld => ?_)
    · exact c3i_of (show Row _ c #[.int .i64 W, .int .i64 H, .slice (some ⟨g, 0, none⟩) 1 cap, .int .i64 n, .slice none 0 0] from HR.out.up (by (repeat' (first | (with_reducible first | exact Up.refl _ | assumption | refine Up.alloc ?_ _ | refine Up.drew ?_ | refine Up.drewN ?_ _ | refine Up.setCell ?_ ?_ _ | refine Up.call ?_ (by assumption)) | go_size))))
    clear hK K
    (try simp only [Act.put, lga, lgz, lgs, lsa, lsz, lss])
    refine wpAnyH_ready (rs := [10]) (by decide +kernel) (by simp) ?_
    refine AllReadyH.cons rfl (fun K hK => ?_) (AllReadyH.nil)
    (try simp only [lga, lgz, lgs])
    (rw [if_pos (by rfl)]; refine wp_append_lies _ (.tmp 21) (.tmp 26) 60 rfl w.heap.size 59 i0 (.agg #[.int .i64 0, .int .i64 0, .slice none 0 0]) 3 40 Try.underlying60 hi hz0 hz1 hz2 rfl (by decide) (.slice none 0 0) 0 [] rfl (World.ownsRow_nil _ _ _ _) ⟨w.heap.size, 0, none⟩ 1 1 #[.int .i64 W, .int .i64 H, .slice (some ⟨g, 0, none⟩) 1 cap].toList rfl rfl (news_at (by (repeat' (with_reducible first | assumption | (refine Row.at _ _ ?_; (simp; done)) | refine Row.alloc ?_ _ | refine Row.drew ?_ | refine Row.drewN ?_ _ | refine Row.other ?_ (by first | (simp; done) | (simp; omega) | omega) _ | refine Row.up ?_ (by assumption) | refine Row.chg ?_ (by assumption) (by first | (simp; done) | (simp; omega))))) rfl) (by simp [Value.oneCell']) (by decide) (by unfold maxLen; omega) (by omega) (by first | (simp; done) | (simp; omega) | omega) _ rfl ?_; intro g2 cap2 w2 hown2 hgr2 hat hg2; have z2 := hgr2.size; (try simp at z2); have hC2 : Chg [] w w2 := Chg.grown (Chg.of_up (show Up w _ by (repeat' (first | (with_reducible first | exact Up.refl _ | assumption | refine Up.alloc ?_ _ | refine Up.drew ?_ | refine Up.drewN ?_ _ | refine Up.setCell ?_ ?_ _ | refine Up.call ?_ (by assumption)) | go_size)))) hgr2 (fun k hk => by cases hk); have RC2 : Row w2 c #[.int .i64 W, .int .i64 H, .slice (some ⟨g, 0, none⟩) 1 cap, .int .i64 n, .slice none 0 0] := HR.out.chg hC2 (by simp); have HO2 := Lib.hid hown2; have HC2 := Lib.hid hC2; have rb2 := RC2.cell 4 rfl; have rf2 := RC2.free 4; have lc2 := RC2.lt; clear hown2 hgr2 hC2)
    refine hK.out _ _ ?_ (fun hHeld => ?_)
    · exact c3i_of RC2
    clear hK K
    (try simp only [Act.put, lga, lgz, lgs, lsa, lsz, lss])
    refine wpAnyH_take (i := 11) (v := ?_) rfl (by kernel_rfl) (by kernel_rfl) (by kernel_rfl) (fun _ _ _ h => h) (Or.inl ⟨by rfl, ?_⟩) (by assumption) ?_
    rotate_left
    · intro w2 hSw
      (try dsimp only at hSw)
      (try (obtain ⟨s0, s1, s2⟩ := hSw))
      go_simp
      (try (with_reducible rfl))
    (try simp only [Act.put, lga, lgz, lgs, lsa, lsz, lss])
    refine wpAnyH_take (i := 12) (v := ?_) rfl (by kernel_rfl) (by kernel_rfl) (by kernel_rfl) (fun _ _ _ h => h) (Or.inl ⟨by rfl, ?_⟩) (by assumption) ?_
    rotate_left
    · intro w2 hSw
      (try dsimp only at hSw)
      (try (obtain ⟨s0, s1, s2⟩ := hSw))
      go_simp
      (try (with_reducible rfl))
    (try simp only [Act.put, lga, lgz, lgs, lsa, lsz, lss])
    refine wpAnyH_ready (rs := [13]) (by decide +kernel) (by simp) ?_
    refine AllReadyH.cons rfl (fun K hK => ?_) (AllReadyH.nil)
    (try simp only [lga, lgz, lgs])
    (go_simp)
    refine hK.out _ _ ?_ (fun hHeld => ?_)
    · exact c3i_of (Row.put RC2 rfl)
    clear hK K
    (try simp only [Act.put, lga, lgz, lgs, lsa, lsz, lss])
    refine wpAnyH_done (by kernel_rfl) ?_ _
    generalize hWR : World.setCell _ _ _ = wR
    have hgc : g2 ≠ c := fun e => by have := (owned_new HO2.out).2 g2 rfl; have := HLC.out; omega
    have RR : Row wR c #[.int .i64 W, .int .i64 H, .slice (some ⟨g, 0, none⟩) 1 cap, .int .i64 n, .slice (some ⟨g2, 0, none⟩) 1 cap2] := by rw [← hWR]; exact Row.put RC2 rfl
    have HOR : Hid (wR.ownsRow w.heap.size 59 3 (.slice (some ⟨g2, 0, none⟩) 1 cap2) 1 #[.int .i64 W, .int .i64 H, .slice (some ⟨g, 0, none⟩) 1 cap].toList) := Lib.hid (by rw [← hWR]; have h1 := HO2.out; simp only [List.nil_append, Nat.zero_add] at h1; exact ownsRow_setCell_other h1 (by simp [Value.ownBlock]; exact hgc) _)
    have HCR : Hid (Chg [c] w wR) := Lib.hid (by rw [← hWR]; exact (HC2.out.mono (by simp)).setCell (Or.inl (by simp)) _)
    have lR := RR.lt
    have cR := RR.cell 2 rfl
    have fR := RR.free 2
    clear hWR hHeld
    go_wp2
    go_ret
    refine ⟨rfl, g2, cap2, Row.put RR rfl, ownsRow_setCell_other HOR.out (by simp [Value.ownBlock]; exact hgc) _, HCR.out.setCell (Or.inl (by simp)) _⟩
  · skip
    (try simp only [lga, lgz, lgs])
    (go_simp)
    refine hK.out _ _ ?_ (fun hHeld => ?_)
    · exact c3i_of (show Row _ c #[.int .i64 W, .int .i64 H, .slice (some ⟨g, 0, none⟩) 1 cap, .int .i64 n, .slice none 0 0] from HR.out.up (by (repeat' (first | (with_reducible first | exact Up.refl _ | assumption | refine Up.alloc ?_ _ | refine Up.drew ?_ | refine Up.drewN ?_ _ | refine Up.setCell ?_ ?_ _ | refine Up.call ?_ (by assumption)) | go_size))))
    clear hK K
    (try simp only [Act.put, lga, lgz, lgs, lsa, lsz, lss])
    refine wpAnyH_ready (rs := [4]) (by decide +kernel) (by simp) ?_
    refine AllReadyH.cons rfl (fun K hK => ?_) (AllReadyH.nil)
    (try simp only [lga, lgz, lgs])
    (go_simp)
    refine hK.out _ _ ?_ (fun hHeld => ?_)
    · exact c3i_of (show Row _ c #[.int .i64 W, .int .i64 H, .slice (some ⟨g, 0, none⟩) 1 cap, .int .i64 n, .slice none 0 0] from HR.out.up (by (repeat' (first | (with_reducible first | exact Up.refl _ | assumption | refine Up.alloc ?_ _ | refine Up.drew ?_ | refine Up.drewN ?_ _ | refine Up.setCell ?_ ?_ _ | refine Up.call ?_ (by assumption)) | go_size))))
    clear hK K
    (try simp only [Act.put, lga, lgz, lgs, lsa, lsz, lss])
    refine wpAnyH_ready (rs := [10]) (by decide +kernel) (by simp) ?_
    refine AllReadyH.cons rfl (fun K hK => ?_) (AllReadyH.nil)
    (try simp only [lga, lgz, lgs])
    (rw [if_pos (by rfl)]; refine wp_append_lies _ (.tmp 21) (.tmp 26) 60 rfl w.heap.size 59 i0 (.agg #[.int .i64 0, .int .i64 0, .slice none 0 0]) 3 40 Try.underlying60 hi hz0 hz1 hz2 rfl (by decide) (.slice none 0 0) 0 [] rfl (World.ownsRow_nil _ _ _ _) ⟨w.heap.size, 0, none⟩ 1 1 #[.int .i64 W, .int .i64 H, .slice (some ⟨g, 0, none⟩) 1 cap].toList rfl rfl (news_at (by (repeat' (with_reducible first | assumption | (refine Row.at _ _ ?_; (simp; done)) | refine Row.alloc ?_ _ | refine Row.drew ?_ | refine Row.drewN ?_ _ | refine Row.other ?_ (by first | (simp; done) | (simp; omega) | omega) _ | refine Row.up ?_ (by assumption) | refine Row.chg ?_ (by assumption) (by first | (simp; done) | (simp; omega))))) rfl) (by simp [Value.oneCell']) (by decide) (by unfold maxLen; omega) (by omega) (by first | (simp; done) | (simp; omega) | omega) _ rfl ?_; intro g2 cap2 w2 hown2 hgr2 hat hg2; have z2 := hgr2.size; (try simp at z2); have hC2 : Chg [] w w2 := Chg.grown (Chg.of_up (show Up w _ by (repeat' (first | (with_reducible first | exact Up.refl _ | assumption | refine Up.alloc ?_ _ | refine Up.drew ?_ | refine Up.drewN ?_ _ | refine Up.setCell ?_ ?_ _ | refine Up.call ?_ (by assumption)) | go_size)))) hgr2 (fun k hk => by cases hk); have RC2 : Row w2 c #[.int .i64 W, .int .i64 H, .slice (some ⟨g, 0, none⟩) 1 cap, .int .i64 n, .slice none 0 0] := HR.out.chg hC2 (by simp); have HO2 := Lib.hid hown2; have HC2 := Lib.hid hC2; have rb2 := RC2.cell 4 rfl; have rf2 := RC2.free 4; have lc2 := RC2.lt; clear hown2 hgr2 hC2)
    refine hK.out _ _ ?_ (fun hHeld => ?_)
    · exact c3i_of RC2
    clear hK K
    (try simp only [Act.put, lga, lgz, lgs, lsa, lsz, lss])
    refine wpAnyH_take (i := 11) (v := ?_) rfl (by kernel_rfl) (by kernel_rfl) (by kernel_rfl) (fun _ _ _ h => h) (Or.inl ⟨by rfl, ?_⟩) (by assumption) ?_
    rotate_left
    · intro w2 hSw
      (try dsimp only at hSw)
      (try (obtain ⟨s0, s1, s2⟩ := hSw))
      go_simp
      (try (with_reducible rfl))
    (try simp only [Act.put, lga, lgz, lgs, lsa, lsz, lss])
    refine wpAnyH_take (i := 12) (v := ?_) rfl (by kernel_rfl) (by kernel_rfl) (by kernel_rfl) (fun _ _ _ h => h) (Or.inl ⟨by rfl, ?_⟩) (by assumption) ?_
    rotate_left
    · intro w2 hSw
      (try dsimp only at hSw)
      (try (obtain ⟨s0, s1, s2⟩ := hSw))
      go_simp
      (try (with_reducible rfl))
    (try simp only [Act.put, lga, lgz, lgs, lsa, lsz, lss])
    refine wpAnyH_ready (rs := [13]) (by decide +kernel) (by simp) ?_
    refine AllReadyH.cons rfl (fun K hK => ?_) (AllReadyH.nil)
    (try simp only [lga, lgz, lgs])
    (go_simp)
    refine hK.out _ _ ?_ (fun hHeld => ?_)
    · exact c3i_of (Row.put RC2 rfl)
    clear hK K
    (try simp only [Act.put, lga, lgz, lgs, lsa, lsz, lss])
    refine wpAnyH_done (by kernel_rfl) ?_ _
    generalize hWR : World.setCell _ _ _ = wR
    have hgc : g2 ≠ c := fun e => by have := (owned_new HO2.out).2 g2 rfl; have := HLC.out; omega
    have RR : Row wR c #[.int .i64 W, .int .i64 H, .slice (some ⟨g, 0, none⟩) 1 cap, .int .i64 n, .slice (some ⟨g2, 0, none⟩) 1 cap2] := by rw [← hWR]; exact Row.put RC2 rfl
    have HOR : Hid (wR.ownsRow w.heap.size 59 3 (.slice (some ⟨g2, 0, none⟩) 1 cap2) 1 #[.int .i64 W, .int .i64 H, .slice (some ⟨g, 0, none⟩) 1 cap].toList) := Lib.hid (by rw [← hWR]; have h1 := HO2.out; simp only [List.nil_append, Nat.zero_add] at h1; exact ownsRow_setCell_other h1 (by simp [Value.ownBlock]; exact hgc) _)
    have HCR : Hid (Chg [c] w wR) := Lib.hid (by rw [← hWR]; exact (HC2.out.mono (by simp)).setCell (Or.inl (by simp)) _)
    have lR := RR.lt
    have cR := RR.cell 2 rfl
    have fR := RR.free 2
    clear hWR hHeld
    go_wp2
    go_ret
    refine ⟨rfl, g2, cap2, Row.put RR rfl, ownsRow_setCell_other HOR.out (by simp [Value.ownBlock]; exact hgc) _, HCR.out.setCell (Or.inl (by simp)) _⟩

end Go.Proofs.Yteddlahklilncaa.Pt
end
