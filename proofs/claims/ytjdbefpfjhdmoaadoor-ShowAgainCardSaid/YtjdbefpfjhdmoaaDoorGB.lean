/- Letters as items in memory, and a canvas that has them. No condition. paint.own of letters. Its condition: a length that an append bears. paint.lay and Add of letters. Their conditions: a length that an append bears, room on the page; the fonts' names lie as they are laid. What Show does, in plain numbers; states, path and canvas together in memory. No condition. show.Show at a place. Its conditions: the fonts' names lie as they are laid; a length that a string has; room on the page. -/
import Derived.Test.YtjdbefpfjhdmoaaDoorGA
import Derived.Test.YtjdbefpfjhdmoaaDoorOwn
import Derived.Test.YtjdbefpfjhdmoaaDoorPathV
namespace Go.Proofs.YtjdbefpfjhdmoaaDoor.ZGB
open Go.ChangeShapes Go.WideShapes Go.ChangeAt Go.RowKit
theorem ra {w : World} {b : Nat} {cs : Array Value} (h : Row w b cs := by (repeat' (with_reducible first | assumption | (refine Row.at _ _ ?_; (simp; done)) | refine Row.alloc ?_ _ | refine Row.drew ?_ | refine Row.drewN ?_ _ | refine Row.other ?_ (by first | (simp; done) | (simp; omega) | omega) _ | refine Row.up ?_ (by assumption) | refine Row.chg ?_ (by assumption) (by first | (simp; done) | (simp; omega))))) : Row w b cs := h
theorem ua {w v : World} (h : Up w v := by (repeat' (first | (with_reducible first | exact Up.refl _ | assumption | refine Up.alloc ?_ _ | refine Up.drew ?_ | refine Up.drewN ?_ _ | refine Up.setCell ?_ ?_ _ | refine Up.call ?_ (by assumption)) | go_size))) : Up w v := h
theorem ro {w : World} {b : Nat} {cs : Array Value} (h : Row w b cs := by apply cast; (case h => (repeat (first | (with_reducible first | assumption | (apply Row.at; (simp; done)) | apply Row.alloc | apply Row.drew | apply Row.drewN | apply Row.set) | ((with_reducible apply Row.other); (case hp => first | (simp; done) | (simp; omega) | omega))))); (case e => rfl)) : Row w b cs := h
end Go.Proofs.YtjdbefpfjhdmoaaDoor.ZGB
section
namespace Go.Proofs.YtjdbefpfjhdmoaaDoor.Sh
open Go.ChangeShapes Go.WideShapes Go.ChangeAt Go.RowKit
open Go.Proofs.YtjdbefpfjhdmoaaDoor.Gs
open Go.Proofs.YtjdbefpfjhdmoaaDoor.MatM (M6)
set_option linter.unusedVariables false
set_option linter.unusedSimpArgs false

/-- an item of letters as it lies in memory -/
def itC (fn : Int) (m : M6) (ca : Option Addr) (cc : Nat) (bv : Value) : Array Value := #[.int .i64 4, .slice none 0 0, .int .i64 1, .int .i64 0, .int .i64 0, .int .i64 0, .int .i64 0, .slice ca 0 cc, .int .i64 0, .int .i64 0, .int .i64 0, .int .i64 0, .slice none 0 0, .int .i64 0, .int .i64 fn, .int .i64 m.a, .int .i64 m.b, .int .i64 m.c, .int .i64 m.d, .int .i64 m.x, .int .i64 m.y, bv]
/-- letters -/
structure It where
  fn : Int
  m : M6
  bs : List Int
/-- letters, and where their lists lie -/
structure Cl where
  it : It
  ca : Option Addr
  cc : Nat
  ba : Option Addr
  bc : Nat
def Cl.bv (c : Cl) : Value := .slice c.ba c.it.bs.length c.bc
def Cl.cells (c : Cl) : List Value := (itC c.it.fn c.it.m c.ca c.cc c.bv).toList
def clCells (l : List Cl) : List Value := l.flatMap Cl.cells
theorem cells_length (c : Cl) : c.cells.length = 22 := rfl
theorem clCells_length (l : List Cl) : (clCells l).length = l.length * 22 := by
  induction l with
  | nil => rfl
  | cons s l ih => simp only [clCells, List.flatMap_cons, List.length_append] at *; rw [ih]; simp [cells_length]; omega
theorem clCells_append (l m : List Cl) : clCells (l ++ m) = clCells l ++ clCells m := by simp [clCells]
theorem clCells_one (l : List Cl) : ∀ u ∈ clCells l, u.oneCell' = true := by
  intro u hu
  simp only [clCells, List.mem_flatMap] at hu
  obtain ⟨s, _, hs⟩ := hu
  simp only [Cl.cells, itC, Cl.bv, List.mem_cons, List.not_mem_nil, or_false] at hs
  rcases hs with rfl | rfl | rfl | rfl | rfl | rfl | rfl | rfl | rfl | rfl | rfl | rfl | rfl | rfl | rfl | rfl | rfl | rfl | rfl | rfl | rfl | rfl <;> rfl
theorem clCells_at : ∀ (l : List Cl) (i : Nat) (s : Cl) (j : Nat), l[i]? = some s → j < 22 → (clCells l)[i * 22 + j]? = s.cells[j]?
  | [], i, s, j, h, _ => by simp at h
  | t :: l, 0, s, j, h, hj => by
    simp only [List.getElem?_cons_zero, Option.some.injEq] at h
    subst h
    simp only [clCells, List.flatMap_cons]
    rw [List.getElem?_append_left (by rw [cells_length]; omega)]
    simp
  | t :: l, i + 1, s, j, h, hj => by
    simp only [List.getElem?_cons_succ] at h
    have := clCells_at l i s j h hj
    simp only [clCells, List.flatMap_cons] at *
    rw [List.getElem?_append_right (by rw [cells_length]; omega), ← this]
    congr 1
    rw [cells_length]
    omega
/-- a canvas' cells -/
def cvC (v : Value) : Array Value := #[.int .i64 6553600, .int .i64 6553600, v, .int .i64 2, .slice none 0 0]
/-- bytes of items -/
def Bys (w : World) (l : List Cl) : Prop := ∀ k ∈ l, Ints .u8 w k.bv k.it.bs
def bys (l : List Cl) : List Nat := l.flatMap (fun k => own k.bv)
theorem bys_append (l m : List Cl) : bys (l ++ m) = bys l ++ bys m := by simp [bys]
theorem ints_chgS {S : List Nat} {k : IntKind} {w w1 : World} {v : Value} {zs : List Int} (h : Ints k w v zs) (hc : Chg S w w1) (hn : ∀ g ∈ own v, g ∉ S) : Ints k w1 v zs := by
  obtain ⟨ao, c, rfl, hl, hm, hno, h0, hw⟩ := h
  refine ⟨ao, c, rfl, hl, hm, hno, fun h1 => ?_, hw⟩
  obtain ⟨g, o, rfl, hb, hcell⟩ := h0 h1
  exact ⟨g, o, rfl, Nat.lt_of_lt_of_le hb hc.size, fun i hi => (hc.cells.1 g _ hb (hn g (by simp [own, Value.ownBlock]))).trans (hcell i hi)⟩
theorem Bys.chg {S : List Nat} {w w1 : World} {l : List Cl} (h : Bys w l) (hc : Chg S w w1) (hn : ∀ g ∈ bys l, g ∉ S) : Bys w1 l := fun k hk => ints_chgS (h k hk) hc (fun g hg => hn g (List.mem_flatMap.2 ⟨k, hk, hg⟩))
/-- items that a slice owns -/
abbrev Its (w : World) (v : Value) (l : List Cl) : Prop := w.ownsRow 0 86 22 v l.length (clCells l)
/-- a canvas in memory -/
structure Canv (w : World) (c : Nat) (v : Value) (l : List Cl) : Prop where
  row : Row w c (cvC v)
  its : Its w v l
  bytes : Bys w l
  apart : ∀ b ∈ bys l, b ≠ c ∧ b ∉ own v
  off : c ∉ own v
theorem Canv.chg {S : List Nat} {w w1 : World} {c : Nat} {v : Value} {l : List Cl} (h : Canv w c v l) (hc : Chg S w w1) (h1 : c ∉ S) (h2 : ∀ b ∈ own v, b ∉ S) (h3 : ∀ b ∈ bys l, b ∉ S) : Canv w1 c v l :=
  ⟨h.row.chg hc h1, owned_chg h.its hc (fun g hg => h2 g (own_mem hg)), h.bytes.chg hc h3, h.apart, h.off⟩
theorem Canv.up {w w1 : World} {c : Nat} {v : Value} {l : List Cl} (h : Canv w c v l) (hc : Up w w1) : Canv w1 c v l := h.chg (S := []) (Chg.of_up hc) (by simp) (by simp) (by simp)

end Go.Proofs.YtjdbefpfjhdmoaaDoor.Sh
end

section
namespace Go.Proofs.YtjdbefpfjhdmoaaDoor.Sh
open List renaming getElem_toArray → lga, getElem_cons_zero → lgz, getElem_cons_succ → lgs, setIfInBounds_toArray → lsa, set_cons_zero → lsz, set_cons_succ → lss
open Go.Proofs.YtjdbefpfjhdmoaaDoor.ZGB
open Go.ChangeShapes Go.WideShapes Go.ChangeAt Go.RowKit
open Go.Proofs.YtjdbefpfjhdmoaaDoor.Gs
open Go.Proofs.YtjdbefpfjhdmoaaDoor.MatM (M6)
set_option linter.unusedVariables false
set_option linter.unusedSimpArgs false

theorem cloneS_nil (w : World) : Calls Tryd.prog 41 #[.slice none 0 0] w fun E w' => E = .returned (.slice none 0 0) ∧ w = w' := by
  have heq0 := fun w => Lib.run_eql_slice_nil (P := Tryd.prog) w 38 97 none 0 0 0 0 Tryd.underlying38
  go_enter Tryd.func41, Tryd.ntmps41
  go_wp2
  go_ret
  exact ⟨rfl, rfl⟩
theorem cloneI_nil (w : World) : Calls Tryd.prog 72 #[.slice none 0 0] w fun E w' => E = .returned (.slice none 0 0) ∧ w = w' := by
  have heq0 := fun w => Lib.run_eql_slice_nil (P := Tryd.prog) w 34 3 none 0 0 0 0 Tryd.underlying34
  go_enter Tryd.func72, Tryd.ntmps72
  go_wp2
  go_ret
  exact ⟨rfl, rfl⟩
theorem results_own (tmps : Array Value) (w : World) (b1 : Nat) (cs : Array Value) (e2 : tmps.getD 2 undef = .pointer (some ⟨b1, 0, none⟩)) (h1 : Row w b1 cs) (hs1 : cs.size = 22) :
    (results Tryd.f68 tmps).run Tryd.prog w = .ok (.agg cs) w := by
  rw [Array.getD_eq_getD_getElem?] at e2
  have hl1 := run_loadAt_mid (P := Tryd.prog) w b1 0 86 cs.toList _ (rng0 h1) Tryd.underlying86 rfl (by rw [Array.length_toList, hs1]; exact infoIt)
  simp [results, Tryd.results68, go_sem, e2] at hl1
  simp [results, Tryd.results68, go_sem, e2, hl1]

set_option maxRecDepth 8000 in
set_option maxHeartbeats 4000000 in
theorem own_calls (fn : Int) (m : M6) (ca : Option Addr) (cc : Nat) (ba : Option Addr) (bc : Nat) (bs : List Int) (w : World) (hv : Ints .u8 w (.slice ba bs.length bc) bs) (hl : bs.length ≤ 1000000) :
    Calls Tryd.prog 68 #[.agg (itC fn m ca cc (.slice ba bs.length bc))] w fun E w' => ∃ k : Cl, E = .returned (.agg (itC k.it.fn k.it.m k.ca k.cc k.bv)) ∧ k.it = ⟨fn, m, bs⟩ ∧ Ints .u8 w' k.bv bs ∧ (∀ g ∈ own k.bv, w.heap.size ≤ g) ∧ Up w w' := by
  have HV := Lib.hid hv
  clear hv
  show Calls Tryd.prog 68 #[.agg #[.int .i64 4, .slice none 0 0, .int .i64 1, .int .i64 0, .int .i64 0, .int .i64 0, .int .i64 0, .slice ca 0 cc, .int .i64 0, .int .i64 0, .int .i64 0, .int .i64 0, .slice none 0 0, .int .i64 0, .int .i64 fn, .int .i64 m.a, .int .i64 m.b, .int .i64 m.c, .int .i64 m.d, .int .i64 m.x, .int .i64 m.y, .slice ba bs.length bc]] w _
  go_enter Tryd.func68, Tryd.ntmps68
  go_wp2
  refine wp_region_held_drew (S := fun w' => w'.cell? ⟨w.heap.size, 1, none⟩ = some (.slice none 0 0) ∧ w'.cell? ⟨w.heap.size, 12, none⟩ = some (.slice none 0 0)) (by kernel_rfl) ?_ (fun hHeld => ?_)
  · exact ⟨(show Row _ w.heap.size #[.int .i64 4, .slice none 0 0, .int .i64 1, .int .i64 0, .int .i64 0, .int .i64 0, .int .i64 0, .slice ca 0 cc, .int .i64 0, .int .i64 0, .int .i64 0, .int .i64 0, .slice none 0 0, .int .i64 0, .int .i64 fn, .int .i64 m.a, .int .i64 m.b, .int .i64 m.c, .int .i64 m.d, .int .i64 m.x, .int .i64 m.y, .slice ba bs.length bc] from (by exact ra)).cell 1 rfl, (show Row _ w.heap.size #[.int .i64 4, .slice none 0 0, .int .i64 1, .int .i64 0, .int .i64 0, .int .i64 0, .int .i64 0, .slice ca 0 cc, .int .i64 0, .int .i64 0, .int .i64 0, .int .i64 0, .slice none 0 0, .int .i64 0, .int .i64 fn, .int .i64 m.a, .int .i64 m.b, .int .i64 m.c, .int .i64 m.d, .int .i64 m.x, .int .i64 m.y, .slice ba bs.length bc] from (by exact ra)).cell 12 rfl⟩
  refine wpAnyH_take (i := 0) (v := ?_) rfl (by kernel_rfl) (by kernel_rfl) (by kernel_rfl) (fun _ _ _ h => h) (Or.inl ⟨by rfl, ?_⟩) (by assumption) ?_
  rotate_left
  · intro w2 hSw
    (try dsimp only at hSw)
    (try (obtain ⟨hs1, hs2⟩ := hSw))
    go_simp
    (try (with_reducible rfl))
  (try simp only [Act.put, lga, lgz, lgs, lsa, lsz, lss])
  refine wpAnyH_take (i := 3) (v := ?_) rfl (by kernel_rfl) (by kernel_rfl) (by kernel_rfl) (fun _ _ _ h => h) (Or.inl ⟨by rfl, ?_⟩) (by assumption) ?_
  rotate_left
  · intro w2 hSw
    (try dsimp only at hSw)
    (try (obtain ⟨hs1, hs2⟩ := hSw))
    go_simp
    (try (with_reducible rfl))
  (try simp only [Act.put, lga, lgz, lgs, lsa, lsz, lss])
  refine wpAnyH_take (i := 6) (v := ?_) rfl (by kernel_rfl) (by kernel_rfl) (by kernel_rfl) (fun _ _ _ h => h) (Or.inl ⟨by rfl, ?_⟩) (by assumption) ?_
  rotate_left
  · intro w2 hSw
    (try dsimp only at hSw)
    (try (obtain ⟨hs1, hs2⟩ := hSw))
    go_simp
    (try (with_reducible rfl))
  (try simp only [Act.put, lga, lgz, lgs, lsa, lsz, lss])
  refine wpAnyH_take (i := 7) (v := ?_) rfl (by kernel_rfl) (by kernel_rfl) (by kernel_rfl) (fun _ _ _ h => h) (Or.inl ⟨by rfl, ?_⟩) (by assumption) ?_
  rotate_left
  · intro w2 hSw
    (try dsimp only at hSw)
    (try (obtain ⟨hs1, hs2⟩ := hSw))
    go_simp
    (try (with_reducible rfl))
  (try simp only [Act.put, lga, lgz, lgs, lsa, lsz, lss])
  refine wpAnyH_take (i := 1) (v := ?_) rfl (by kernel_rfl) (by kernel_rfl) (by kernel_rfl) (fun _ _ _ h => h) (Or.inl ⟨by rfl, ?_⟩) (by assumption) ?_
  rotate_left
  · intro w2 hSw
    (try dsimp only at hSw)
    (try (obtain ⟨hs1, hs2⟩ := hSw))
    go_simp
    (try (with_reducible rfl))
  (try simp only [Act.put, lga, lgz, lgs, lsa, lsz, lss])
  refine wpAnyH_take (i := 8) (v := ?_) rfl (by kernel_rfl) (by kernel_rfl) (by kernel_rfl) (fun _ _ _ h => h) (Or.inl ⟨by rfl, ?_⟩) (by assumption) ?_
  rotate_left
  · intro w2 hSw
    (try dsimp only at hSw)
    (try (obtain ⟨hs1, hs2⟩ := hSw))
    go_simp
    (try (with_reducible rfl))
  (try simp only [Act.put, lga, lgz, lgs, lsa, lsz, lss])
  refine wpAnyH_ready (rs := [2, 4]) (by decide +kernel) (by simp) ?_
  refine AllReadyH.cons rfl (fun K hK => ?_) (AllReadyH.cons rfl (fun K hK => ?_) (AllReadyH.nil))
  · skip
    (try simp only [lga, lgz, lgs])
    (go_simp; go_at_call 41; (with_reducible refine (cloneS_nil _).mono ?_); rintro E wx ⟨rfl, rfl⟩; (try dsimp only))
    refine hK.out _ _ ?_ (fun hHeld => ?_)
    · exact hHeld
    clear hK K
    (try simp only [Act.put, lga, lgz, lgs, lsa, lsz, lss])
    refine wpAnyH_ready (rs := [4]) (by decide +kernel) (by simp) ?_
    refine AllReadyH.cons rfl (fun K hK => ?_) (AllReadyH.nil)
    (try simp only [lga, lgz, lgs])
    (go_simp)
    refine hK.out _ _ ?_ (fun hHeld => ?_)
    · exact hHeld
    clear hK K
    (try simp only [Act.put, lga, lgz, lgs, lsa, lsz, lss])
    refine wpAnyH_take (i := 10) (v := ?_) rfl (by kernel_rfl) (by kernel_rfl) (by kernel_rfl) (fun _ _ _ h => h) (Or.inl ⟨by rfl, ?_⟩) (by assumption) ?_
    rotate_left
    · intro w2 hSw
      (try dsimp only at hSw)
      (try (obtain ⟨hs1, hs2⟩ := hSw))
      go_simp
      (try (with_reducible rfl))
    (try simp only [Act.put, lga, lgz, lgs, lsa, lsz, lss])
    refine wpAnyH_ready (rs := [5]) (by decide +kernel) (by simp) ?_
    refine AllReadyH.cons rfl (fun K hK => ?_) (AllReadyH.nil)
    (try simp only [lga, lgz, lgs])
    (go_simp; go_at_call 62; (with_reducible refine (bclone_calls (.slice ba bs.length bc) bs _ (HV.out.up (by exact ua)) hl).mono ?_); rintro E w2 ⟨vb, rfl, hvb, hu2, hown⟩; (obtain ⟨va, vcc, rfl⟩ : ∃ a1 c1, vb = .slice a1 bs.length c1 := by obtain ⟨a1, c1, h1, -⟩ := hvb; exact ⟨a1, c1, h1⟩); have z2 := hu2.size; (try simp at z2); (try simp at hown); have RI2 : Row w2 w.heap.size #[.int .i64 4, .slice none 0 0, .int .i64 1, .int .i64 0, .int .i64 0, .int .i64 0, .int .i64 0, .slice ca 0 cc, .int .i64 0, .int .i64 0, .int .i64 0, .int .i64 0, .slice none 0 0, .int .i64 0, .int .i64 fn, .int .i64 m.a, .int .i64 m.b, .int .i64 m.c, .int .i64 m.d, .int .i64 m.x, .int .i64 m.y, .slice ba bs.length bc] := Row.up (show Row _ w.heap.size #[.int .i64 4, .slice none 0 0, .int .i64 1, .int .i64 0, .int .i64 0, .int .i64 0, .int .i64 0, .slice ca 0 cc, .int .i64 0, .int .i64 0, .int .i64 0, .int .i64 0, .slice none 0 0, .int .i64 0, .int .i64 fn, .int .i64 m.a, .int .i64 m.b, .int .i64 m.c, .int .i64 m.d, .int .i64 m.x, .int .i64 m.y, .slice ba bs.length bc] by exact ra) hu2; have RZ2 : Row w2 (w.heap.size + 1) #[.int .i64 0, .slice none 0 0, .int .i64 0, .int .i64 0, .int .i64 0, .int .i64 0, .int .i64 0, .slice none 0 0, .int .i64 0, .int .i64 0, .int .i64 0, .int .i64 0, .slice none 0 0, .int .i64 0, .int .i64 0, .int .i64 0, .int .i64 0, .int .i64 0, .int .i64 0, .int .i64 0, .int .i64 0, .slice none 0 0] := Row.up (show Row _ (w.heap.size + 1) #[.int .i64 0, .slice none 0 0, .int .i64 0, .int .i64 0, .int .i64 0, .int .i64 0, .int .i64 0, .slice none 0 0, .int .i64 0, .int .i64 0, .int .i64 0, .int .i64 0, .slice none 0 0, .int .i64 0, .int .i64 0, .int .i64 0, .int .i64 0, .int .i64 0, .int .i64 0, .int .i64 0, .int .i64 0, .slice none 0 0] by exact ra) hu2; have HVB := Lib.hid hvb; have u2 : Up w w2 := (by exact ua); have lb2 := RI2.lt; have cc1 := RI2.cell 1 rfl; have cc12 := RI2.cell 12 rfl; have cc21 : w2.cell? ⟨w.heap.size, 21, none⟩ = some (.slice ba bs.length bc) := RI2.cell 21 rfl; have fr1 := RI2.free 1; have fr21 := RI2.free 21; have fr12 := RI2.free 12; clear hvb; (try dsimp only))
    refine hK.out _ _ ?_ (fun hHeld => ?_)
    · exact ⟨(RI2).cell 1 rfl, (RI2).cell 12 rfl⟩
    clear hK K
    (try simp only [Act.put, lga, lgz, lgs, lsa, lsz, lss])
    refine wpAnyH_ready (rs := [9]) (by decide +kernel) (by simp) ?_
    refine AllReadyH.cons rfl (fun K hK => ?_) (AllReadyH.nil)
    (try simp only [lga, lgz, lgs])
    (go_simp; go_at_call 72; (with_reducible refine (cloneI_nil _).mono ?_); rintro E wx ⟨rfl, rfl⟩; (try dsimp only))
    refine hK.out _ _ ?_ (fun hHeld => ?_)
    · exact ⟨(RI2).cell 1 rfl, (RI2).cell 12 rfl⟩
    clear hK K
    (try simp only [Act.put, lga, lgz, lgs, lsa, lsz, lss])
    refine wpAnyH_ready (rs := [11]) (by decide +kernel) (by simp) ?_
    refine AllReadyH.cons rfl (fun K hK => ?_) (AllReadyH.nil)
    (try simp only [lga, lgz, lgs])
    (go_simp)
    refine hK.out _ _ ?_ (fun hHeld => ?_)
    · exact ⟨(show Row _ w.heap.size #[.int .i64 4, .slice none 0 0, .int .i64 1, .int .i64 0, .int .i64 0, .int .i64 0, .int .i64 0, .slice ca 0 cc, .int .i64 0, .int .i64 0, .int .i64 0, .int .i64 0, .slice none 0 0, .int .i64 0, .int .i64 fn, .int .i64 m.a, .int .i64 m.b, .int .i64 m.c, .int .i64 m.d, .int .i64 m.x, .int .i64 m.y, .slice ba bs.length bc] from (by exact ro)).cell 1 rfl, (show Row _ w.heap.size #[.int .i64 4, .slice none 0 0, .int .i64 1, .int .i64 0, .int .i64 0, .int .i64 0, .int .i64 0, .slice ca 0 cc, .int .i64 0, .int .i64 0, .int .i64 0, .int .i64 0, .slice none 0 0, .int .i64 0, .int .i64 fn, .int .i64 m.a, .int .i64 m.b, .int .i64 m.c, .int .i64 m.d, .int .i64 m.x, .int .i64 m.y, .slice ba bs.length bc] from (by exact ro)).cell 12 rfl⟩
    clear hK K
    (try simp only [Act.put, lga, lgz, lgs, lsa, lsz, lss])
    refine wpAnyH_take (i := 12) (v := ?_) rfl (by kernel_rfl) (by kernel_rfl) (by kernel_rfl) (fun _ _ _ h => h) (Or.inl ⟨by rfl, ?_⟩) (by assumption) ?_
    rotate_left
    · intro w2 hSw
      (try dsimp only at hSw)
      (try (obtain ⟨hs1, hs2⟩ := hSw))
      go_simp
      (try (with_reducible rfl))
    (try simp only [Act.put, lga, lgz, lgs, lsa, lsz, lss])
    refine wpAnyH_ready (rs := [13]) (by decide +kernel) (by simp) ?_
    refine AllReadyH.cons rfl (fun K hK => ?_) (AllReadyH.nil)
    (try simp only [lga, lgz, lgs])
    (go_simp)
    refine hK.out _ _ ?_ (fun hHeld => ?_)
    · exact ⟨(show Row _ w.heap.size #[.int .i64 4, .slice none 0 0, .int .i64 1, .int .i64 0, .int .i64 0, .int .i64 0, .int .i64 0, .slice ca 0 cc, .int .i64 0, .int .i64 0, .int .i64 0, .int .i64 0, .slice none 0 0, .int .i64 0, .int .i64 fn, .int .i64 m.a, .int .i64 m.b, .int .i64 m.c, .int .i64 m.d, .int .i64 m.x, .int .i64 m.y, .slice va bs.length vcc] from (by exact ro)).cell 1 rfl, (show Row _ w.heap.size #[.int .i64 4, .slice none 0 0, .int .i64 1, .int .i64 0, .int .i64 0, .int .i64 0, .int .i64 0, .slice ca 0 cc, .int .i64 0, .int .i64 0, .int .i64 0, .int .i64 0, .slice none 0 0, .int .i64 0, .int .i64 fn, .int .i64 m.a, .int .i64 m.b, .int .i64 m.c, .int .i64 m.d, .int .i64 m.x, .int .i64 m.y, .slice va bs.length vcc] from (by exact ro)).cell 12 rfl⟩
    clear hK K
    (try simp only [Act.put, lga, lgz, lgs, lsa, lsz, lss])
    refine wpAnyH_take (i := 14) (v := ?_) rfl (by kernel_rfl) (by kernel_rfl) (by kernel_rfl) (fun _ _ _ h => h) (Or.inl ⟨by rfl, ?_⟩) (by assumption) ?_
    rotate_left
    · intro w2 hSw
      (try dsimp only at hSw)
      (try (obtain ⟨hs1, hs2⟩ := hSw))
      go_simp
      (try (with_reducible rfl))
    (try simp only [Act.put, lga, lgz, lgs, lsa, lsz, lss])
    refine wpAnyH_take (i := 15) (v := ?_) rfl (by kernel_rfl) (by kernel_rfl) (by kernel_rfl) (fun _ _ _ h => h) (Or.inl ⟨by rfl, ?_⟩) (by assumption) ?_
    rotate_left
    · intro w2 hSw
      (try dsimp only at hSw)
      (try (obtain ⟨hs1, hs2⟩ := hSw))
      go_simp
      (try (with_reducible rfl))
    (try simp only [Act.put, lga, lgz, lgs, lsa, lsz, lss])
    refine wpAnyH_ready (rs := [16]) (by decide +kernel) (by simp) ?_
    refine AllReadyH.cons rfl (fun K hK => ?_) (AllReadyH.nil)
    (try simp only [lga, lgz, lgs])
    (go_simp)
    refine hK.out _ _ ?_ (fun hHeld => ?_)
    · exact ⟨(show Row _ w.heap.size #[.int .i64 4, .slice none 0 0, .int .i64 1, .int .i64 0, .int .i64 0, .int .i64 0, .int .i64 0, .slice ca 0 cc, .int .i64 0, .int .i64 0, .int .i64 0, .int .i64 0, .slice none 0 0, .int .i64 0, .int .i64 fn, .int .i64 m.a, .int .i64 m.b, .int .i64 m.c, .int .i64 m.d, .int .i64 m.x, .int .i64 m.y, .slice va bs.length vcc] from (by exact ro)).cell 1 rfl, (show Row _ w.heap.size #[.int .i64 4, .slice none 0 0, .int .i64 1, .int .i64 0, .int .i64 0, .int .i64 0, .int .i64 0, .slice ca 0 cc, .int .i64 0, .int .i64 0, .int .i64 0, .int .i64 0, .slice none 0 0, .int .i64 0, .int .i64 fn, .int .i64 m.a, .int .i64 m.b, .int .i64 m.c, .int .i64 m.d, .int .i64 m.x, .int .i64 m.y, .slice va bs.length vcc] from (by exact ro)).cell 12 rfl⟩
    clear hK K
    (try simp only [Act.put, lga, lgz, lgs, lsa, lsz, lss])
    refine wpAnyH_done (by kernel_rfl) ?_ _
    (try dsimp only)
    generalize hW : World.setCell (World.setCell (World.setCell _ _ _) _ _) _ _ = wf
    have RF : Row wf w.heap.size #[.int .i64 4, .slice none 0 0, .int .i64 1, .int .i64 0, .int .i64 0, .int .i64 0, .int .i64 0, .slice ca 0 cc, .int .i64 0, .int .i64 0, .int .i64 0, .int .i64 0, .slice none 0 0, .int .i64 0, .int .i64 fn, .int .i64 m.a, .int .i64 m.b, .int .i64 m.c, .int .i64 m.d, .int .i64 m.x, .int .i64 m.y, .slice va bs.length vcc] := by rw [← hW]; exact (by exact ro)
    have RZ : Row wf (w.heap.size + 1) #[.int .i64 0, .slice none 0 0, .int .i64 0, .int .i64 0, .int .i64 0, .int .i64 0, .int .i64 0, .slice none 0 0, .int .i64 0, .int .i64 0, .int .i64 0, .int .i64 0, .slice none 0 0, .int .i64 0, .int .i64 0, .int .i64 0, .int .i64 0, .int .i64 0, .int .i64 0, .int .i64 0, .int .i64 0, .slice none 0 0] := by rw [← hW]; exact (by exact ro)
    have uF : Up w wf := by rw [← hW]; exact (show Chg [] w _ from by (repeat' (first | (with_reducible first | exact Chg.refl _ _ | assumption | refine Chg.alloc ?_ _ | refine Chg.drew ?_ | refine Chg.drewN ?_ _ | refine Chg.setCell ?_ ?_ _ | refine Chg.upc ?_ (by assumption) | refine Chg.call ?_ (by assumption) ?_) | (refine Or.inl ?_; (simp; done)) | (simp; done) | (simp; omega) | omega))).up
    have hcf : Chg [w.heap.size] w2 wf := by rw [← hW]; exact (((Chg.refl [w.heap.size] w2).setCell (Or.inl (by simp)) _).setCell (Or.inl (by simp)) _).setCell (Or.inl (by simp)) _
    have HF := Lib.hid (show Ints .u8 wf (.slice va bs.length vcc) bs from ints_chg HVB.out hcf (fun g hg => by have := hown g hg; omega))
    have hzf := hcf.size
    have lf := RF.lt
    have lz := RZ.lt
    have f7 : wf.cell? ⟨w.heap.size, 7, none⟩ = some (.slice ca 0 cc) := RF.cell 7 rfl
    have ff7 := RF.free 7
    clear hW hHeld hcf u2 hu2 RI2 RZ2 HVB fr1 fr21 fr12
    have hmk : ∀ W : World, (Instr.makeSlice 37 (.int .i64 0) (.int .i64 0)).run Tryd.prog W = .ok (.slice (some ⟨W.heap.size, 0, none⟩) 0 0) (W.alloc (.cells #[] 112)) := fun _ => by kernel_rfl
    go_wp2
    go_loop [3, 27] (fun s3 s27 => s3 = .slice (some ⟨wf.heap.size, 0, none⟩) 0 0 ∧ s27 = .int .i64 0) (fun _ _ => 0)
    case atStart => exact ⟨rfl, rfl⟩
    case round =>
      obtain ⟨rfl, rfl⟩ := hrel
      go_wp2_with (first
        | (refine wpList_load_Row rfl 86 (.tmp 1) rfl w.heap.size rfl #[.int .i64 4, .slice none 0 0, .int .i64 1, .int .i64 0, .int .i64 0, .int .i64 0, .int .i64 0, .slice (some ⟨wf.heap.size, 0, none⟩) 0 0, .int .i64 0, .int .i64 0, .int .i64 0, .int .i64 0, .slice none 0 0, .int .i64 0, .int .i64 fn, .int .i64 m.a, .int .i64 m.b, .int .i64 m.c, .int .i64 m.d, .int .i64 m.x, .int .i64 m.y, .slice va bs.length vcc] _ (show Row _ w.heap.size #[.int .i64 4, .slice none 0 0, .int .i64 1, .int .i64 0, .int .i64 0, .int .i64 0, .int .i64 0, .slice (some ⟨wf.heap.size, 0, none⟩) 0 0, .int .i64 0, .int .i64 0, .int .i64 0, .int .i64 0, .slice none 0 0, .int .i64 0, .int .i64 fn, .int .i64 m.a, .int .i64 m.b, .int .i64 m.c, .int .i64 m.d, .int .i64 m.x, .int .i64 m.y, .slice va bs.length vcc] from (by exact ro)) Tryd.underlying86 rfl infoIt rfl ?_)
        | ((refine wpList_store_Row rfl 86 (.tmp 2) _ rfl (w.heap.size + 1) #[.int .i64 4, .slice none 0 0, .int .i64 1, .int .i64 0, .int .i64 0, .int .i64 0, .int .i64 0, .slice (some ⟨wf.heap.size, 0, none⟩) 0 0, .int .i64 0, .int .i64 0, .int .i64 0, .int .i64 0, .slice none 0 0, .int .i64 0, .int .i64 fn, .int .i64 m.a, .int .i64 m.b, .int .i64 m.c, .int .i64 m.d, .int .i64 m.x, .int .i64 m.y, .slice va bs.length vcc] rfl rfl #[.int .i64 0, .slice none 0 0, .int .i64 0, .int .i64 0, .int .i64 0, .int .i64 0, .int .i64 0, .slice none 0 0, .int .i64 0, .int .i64 0, .int .i64 0, .int .i64 0, .slice none 0 0, .int .i64 0, .int .i64 0, .int .i64 0, .int .i64 0, .int .i64 0, .int .i64 0, .int .i64 0, .int .i64 0, .slice none 0 0] (by exact ra) infoIt rfl rfl (by simp [Value.oneCell']) ?_); intro w3 hr3 hc3))
      (try simp only [Exit.inBlock, Exit.then])
      refine bodyPost_ret (results_own _ _ (w.heap.size + 1) #[.int .i64 4, .slice none 0 0, .int .i64 1, .int .i64 0, .int .i64 0, .int .i64 0, .int .i64 0, .slice (some ⟨wf.heap.size, 0, none⟩) 0 0, .int .i64 0, .int .i64 0, .int .i64 0, .int .i64 0, .slice none 0 0, .int .i64 0, .int .i64 fn, .int .i64 m.a, .int .i64 m.b, .int .i64 m.c, .int .i64 m.d, .int .i64 m.x, .int .i64 m.y, .slice va bs.length vcc] rfl hr3 rfl) rfl ?_
      have hcz : Chg [w.heap.size, w.heap.size + 1] wf w3 := ((((Chg.refl [w.heap.size, w.heap.size + 1] wf).setCell (Or.inl (by simp)) _).alloc _).call hc3 (fun k hk => Or.inl (by simp at hk; simp [hk])))
      exact ⟨⟨⟨fn, m, bs⟩, some ⟨wf.heap.size, 0, none⟩, 0, va, vcc⟩, rfl, rfl, ints_chgS HF.out hcz (fun g hg => by have := hown g (own_of hg); simp; omega), fun g hg => by have := hown g (own_of hg); omega, ((Chg.of_up (S := []) uF).call hcz (fun k hk => by simp at hk; omega)).up⟩
  · skip
    (try simp only [lga, lgz, lgs])
    (go_simp)
    refine hK.out _ _ ?_ (fun hHeld => ?_)
    · exact hHeld
    clear hK K
    (try simp only [Act.put, lga, lgz, lgs, lsa, lsz, lss])
    refine wpAnyH_ready (rs := [2]) (by decide +kernel) (by simp) ?_
    refine AllReadyH.cons rfl (fun K hK => ?_) (AllReadyH.nil)
    (try simp only [lga, lgz, lgs])
    (go_simp; go_at_call 41; (with_reducible refine (cloneS_nil _).mono ?_); rintro E wx ⟨rfl, rfl⟩; (try dsimp only))
    refine hK.out _ _ ?_ (fun hHeld => ?_)
    · exact hHeld
    clear hK K
    (try simp only [Act.put, lga, lgz, lgs, lsa, lsz, lss])
    refine wpAnyH_take (i := 10) (v := ?_) rfl (by kernel_rfl) (by kernel_rfl) (by kernel_rfl) (fun _ _ _ h => h) (Or.inl ⟨by rfl, ?_⟩) (by assumption) ?_
    rotate_left
    · intro w2 hSw
      (try dsimp only at hSw)
      (try (obtain ⟨hs1, hs2⟩ := hSw))
      go_simp
      (try (with_reducible rfl))
    (try simp only [Act.put, lga, lgz, lgs, lsa, lsz, lss])
    refine wpAnyH_ready (rs := [5]) (by decide +kernel) (by simp) ?_
    refine AllReadyH.cons rfl (fun K hK => ?_) (AllReadyH.nil)
    (try simp only [lga, lgz, lgs])
    (go_simp; go_at_call 62; (with_reducible refine (bclone_calls (.slice ba bs.length bc) bs _ (HV.out.up (by exact ua)) hl).mono ?_); rintro E w2 ⟨vb, rfl, hvb, hu2, hown⟩; (obtain ⟨va, vcc, rfl⟩ : ∃ a1 c1, vb = .slice a1 bs.length c1 := by obtain ⟨a1, c1, h1, -⟩ := hvb; exact ⟨a1, c1, h1⟩); have z2 := hu2.size; (try simp at z2); (try simp at hown); have RI2 : Row w2 w.heap.size #[.int .i64 4, .slice none 0 0, .int .i64 1, .int .i64 0, .int .i64 0, .int .i64 0, .int .i64 0, .slice ca 0 cc, .int .i64 0, .int .i64 0, .int .i64 0, .int .i64 0, .slice none 0 0, .int .i64 0, .int .i64 fn, .int .i64 m.a, .int .i64 m.b, .int .i64 m.c, .int .i64 m.d, .int .i64 m.x, .int .i64 m.y, .slice ba bs.length bc] := Row.up (show Row _ w.heap.size #[.int .i64 4, .slice none 0 0, .int .i64 1, .int .i64 0, .int .i64 0, .int .i64 0, .int .i64 0, .slice ca 0 cc, .int .i64 0, .int .i64 0, .int .i64 0, .int .i64 0, .slice none 0 0, .int .i64 0, .int .i64 fn, .int .i64 m.a, .int .i64 m.b, .int .i64 m.c, .int .i64 m.d, .int .i64 m.x, .int .i64 m.y, .slice ba bs.length bc] by exact ra) hu2; have RZ2 : Row w2 (w.heap.size + 1) #[.int .i64 0, .slice none 0 0, .int .i64 0, .int .i64 0, .int .i64 0, .int .i64 0, .int .i64 0, .slice none 0 0, .int .i64 0, .int .i64 0, .int .i64 0, .int .i64 0, .slice none 0 0, .int .i64 0, .int .i64 0, .int .i64 0, .int .i64 0, .int .i64 0, .int .i64 0, .int .i64 0, .int .i64 0, .slice none 0 0] := Row.up (show Row _ (w.heap.size + 1) #[.int .i64 0, .slice none 0 0, .int .i64 0, .int .i64 0, .int .i64 0, .int .i64 0, .int .i64 0, .slice none 0 0, .int .i64 0, .int .i64 0, .int .i64 0, .int .i64 0, .slice none 0 0, .int .i64 0, .int .i64 0, .int .i64 0, .int .i64 0, .int .i64 0, .int .i64 0, .int .i64 0, .int .i64 0, .slice none 0 0] by exact ra) hu2; have HVB := Lib.hid hvb; have u2 : Up w w2 := (by exact ua); have lb2 := RI2.lt; have cc1 := RI2.cell 1 rfl; have cc12 := RI2.cell 12 rfl; have cc21 : w2.cell? ⟨w.heap.size, 21, none⟩ = some (.slice ba bs.length bc) := RI2.cell 21 rfl; have fr1 := RI2.free 1; have fr21 := RI2.free 21; have fr12 := RI2.free 12; clear hvb; (try dsimp only))
    refine hK.out _ _ ?_ (fun hHeld => ?_)
    · exact ⟨(RI2).cell 1 rfl, (RI2).cell 12 rfl⟩
    clear hK K
    (try simp only [Act.put, lga, lgz, lgs, lsa, lsz, lss])
    refine wpAnyH_ready (rs := [9]) (by decide +kernel) (by simp) ?_
    refine AllReadyH.cons rfl (fun K hK => ?_) (AllReadyH.nil)
    (try simp only [lga, lgz, lgs])
    (go_simp; go_at_call 72; (with_reducible refine (cloneI_nil _).mono ?_); rintro E wx ⟨rfl, rfl⟩; (try dsimp only))
    refine hK.out _ _ ?_ (fun hHeld => ?_)
    · exact ⟨(RI2).cell 1 rfl, (RI2).cell 12 rfl⟩
    clear hK K
    (try simp only [Act.put, lga, lgz, lgs, lsa, lsz, lss])
    refine wpAnyH_ready (rs := [11]) (by decide +kernel) (by simp) ?_
    refine AllReadyH.cons rfl (fun K hK => ?_) (AllReadyH.nil)
    (try simp only [lga, lgz, lgs])
    (go_simp)
    refine hK.out _ _ ?_ (fun hHeld => ?_)
    · exact ⟨(show Row _ w.heap.size #[.int .i64 4, .slice none 0 0, .int .i64 1, .int .i64 0, .int .i64 0, .int .i64 0, .int .i64 0, .slice ca 0 cc, .int .i64 0, .int .i64 0, .int .i64 0, .int .i64 0, .slice none 0 0, .int .i64 0, .int .i64 fn, .int .i64 m.a, .int .i64 m.b, .int .i64 m.c, .int .i64 m.d, .int .i64 m.x, .int .i64 m.y, .slice ba bs.length bc] from (by exact ro)).cell 1 rfl, (show Row _ w.heap.size #[.int .i64 4, .slice none 0 0, .int .i64 1, .int .i64 0, .int .i64 0, .int .i64 0, .int .i64 0, .slice ca 0 cc, .int .i64 0, .int .i64 0, .int .i64 0, .int .i64 0, .slice none 0 0, .int .i64 0, .int .i64 fn, .int .i64 m.a, .int .i64 m.b, .int .i64 m.c, .int .i64 m.d, .int .i64 m.x, .int .i64 m.y, .slice ba bs.length bc] from (by exact ro)).cell 12 rfl⟩
    clear hK K
    (try simp only [Act.put, lga, lgz, lgs, lsa, lsz, lss])
    refine wpAnyH_take (i := 12) (v := ?_) rfl (by kernel_rfl) (by kernel_rfl) (by kernel_rfl) (fun _ _ _ h => h) (Or.inl ⟨by rfl, ?_⟩) (by assumption) ?_
    rotate_left
    · intro w2 hSw
      (try dsimp only at hSw)
      (try (obtain ⟨hs1, hs2⟩ := hSw))
      go_simp
      (try (with_reducible rfl))
    (try simp only [Act.put, lga, lgz, lgs, lsa, lsz, lss])
    refine wpAnyH_ready (rs := [13]) (by decide +kernel) (by simp) ?_
    refine AllReadyH.cons rfl (fun K hK => ?_) (AllReadyH.nil)
    (try simp only [lga, lgz, lgs])
    (go_simp)
    refine hK.out _ _ ?_ (fun hHeld => ?_)
    · exact ⟨(show Row _ w.heap.size #[.int .i64 4, .slice none 0 0, .int .i64 1, .int .i64 0, .int .i64 0, .int .i64 0, .int .i64 0, .slice ca 0 cc, .int .i64 0, .int .i64 0, .int .i64 0, .int .i64 0, .slice none 0 0, .int .i64 0, .int .i64 fn, .int .i64 m.a, .int .i64 m.b, .int .i64 m.c, .int .i64 m.d, .int .i64 m.x, .int .i64 m.y, .slice va bs.length vcc] from (by exact ro)).cell 1 rfl, (show Row _ w.heap.size #[.int .i64 4, .slice none 0 0, .int .i64 1, .int .i64 0, .int .i64 0, .int .i64 0, .int .i64 0, .slice ca 0 cc, .int .i64 0, .int .i64 0, .int .i64 0, .int .i64 0, .slice none 0 0, .int .i64 0, .int .i64 fn, .int .i64 m.a, .int .i64 m.b, .int .i64 m.c, .int .i64 m.d, .int .i64 m.x, .int .i64 m.y, .slice va bs.length vcc] from (by exact ro)).cell 12 rfl⟩
    clear hK K
    (try simp only [Act.put, lga, lgz, lgs, lsa, lsz, lss])
    refine wpAnyH_take (i := 14) (v := ?_) rfl (by kernel_rfl) (by kernel_rfl) (by kernel_rfl) (fun _ _ _ h => h) (Or.inl ⟨by rfl, ?_⟩) (by assumption) ?_
    rotate_left
    · intro w2 hSw
      (try dsimp only at hSw)
      (try (obtain ⟨hs1, hs2⟩ := hSw))
      go_simp
      (try (with_reducible rfl))
    (try simp only [Act.put, lga, lgz, lgs, lsa, lsz, lss])
    refine wpAnyH_take (i := 15) (v := ?_) rfl (by kernel_rfl) (by kernel_rfl) (by kernel_rfl) (fun _ _ _ h => h) (Or.inl ⟨by rfl, ?_⟩) (by assumption) ?_
    rotate_left
    · intro w2 hSw
      (try dsimp only at hSw)
      (try (obtain ⟨hs1, hs2⟩ := hSw))
      go_simp
      (try (with_reducible rfl))
    (try simp only [Act.put, lga, lgz, lgs, lsa, lsz, lss])
    refine wpAnyH_ready (rs := [16]) (by decide +kernel) (by simp) ?_
    refine AllReadyH.cons rfl (fun K hK => ?_) (AllReadyH.nil)
    (try simp only [lga, lgz, lgs])
    (go_simp)
    refine hK.out _ _ ?_ (fun hHeld => ?_)
    · exact ⟨(show Row _ w.heap.size #[.int .i64 4, .slice none 0 0, .int .i64 1, .int .i64 0, .int .i64 0, .int .i64 0, .int .i64 0, .slice ca 0 cc, .int .i64 0, .int .i64 0, .int .i64 0, .int .i64 0, .slice none 0 0, .int .i64 0, .int .i64 fn, .int .i64 m.a, .int .i64 m.b, .int .i64 m.c, .int .i64 m.d, .int .i64 m.x, .int .i64 m.y, .slice va bs.length vcc] from (by exact ro)).cell 1 rfl, (show Row _ w.heap.size #[.int .i64 4, .slice none 0 0, .int .i64 1, .int .i64 0, .int .i64 0, .int .i64 0, .int .i64 0, .slice ca 0 cc, .int .i64 0, .int .i64 0, .int .i64 0, .int .i64 0, .slice none 0 0, .int .i64 0, .int .i64 fn, .int .i64 m.a, .int .i64 m.b, .int .i64 m.c, .int .i64 m.d, .int .i64 m.x, .int .i64 m.y, .slice va bs.length vcc] from (by exact ro)).cell 12 rfl⟩
    clear hK K
    (try simp only [Act.put, lga, lgz, lgs, lsa, lsz, lss])
    refine wpAnyH_done (by kernel_rfl) ?_ _
    (try dsimp only)
    generalize hW : World.setCell (World.setCell (World.setCell _ _ _) _ _) _ _ = wf
    have RF : Row wf w.heap.size #[.int .i64 4, .slice none 0 0, .int .i64 1, .int .i64 0, .int .i64 0, .int .i64 0, .int .i64 0, .slice ca 0 cc, .int .i64 0, .int .i64 0, .int .i64 0, .int .i64 0, .slice none 0 0, .int .i64 0, .int .i64 fn, .int .i64 m.a, .int .i64 m.b, .int .i64 m.c, .int .i64 m.d, .int .i64 m.x, .int .i64 m.y, .slice va bs.length vcc] := by rw [← hW]; exact (by exact ro)
    have RZ : Row wf (w.heap.size + 1) #[.int .i64 0, .slice none 0 0, .int .i64 0, .int .i64 0, .int .i64 0, .int .i64 0, .int .i64 0, .slice none 0 0, .int .i64 0, .int .i64 0, .int .i64 0, .int .i64 0, .slice none 0 0, .int .i64 0, .int .i64 0, .int .i64 0, .int .i64 0, .int .i64 0, .int .i64 0, .int .i64 0, .int .i64 0, .slice none 0 0] := by rw [← hW]; exact (by exact ro)
    have uF : Up w wf := by rw [← hW]; exact (show Chg [] w _ from by (repeat' (first | (with_reducible first | exact Chg.refl _ _ | assumption | refine Chg.alloc ?_ _ | refine Chg.drew ?_ | refine Chg.drewN ?_ _ | refine Chg.setCell ?_ ?_ _ | refine Chg.upc ?_ (by assumption) | refine Chg.call ?_ (by assumption) ?_) | (refine Or.inl ?_; (simp; done)) | (simp; done) | (simp; omega) | omega))).up
    have hcf : Chg [w.heap.size] w2 wf := by rw [← hW]; exact (((Chg.refl [w.heap.size] w2).setCell (Or.inl (by simp)) _).setCell (Or.inl (by simp)) _).setCell (Or.inl (by simp)) _
    have HF := Lib.hid (show Ints .u8 wf (.slice va bs.length vcc) bs from ints_chg HVB.out hcf (fun g hg => by have := hown g hg; omega))
    have hzf := hcf.size
    have lf := RF.lt
    have lz := RZ.lt
    have f7 : wf.cell? ⟨w.heap.size, 7, none⟩ = some (.slice ca 0 cc) := RF.cell 7 rfl
    have ff7 := RF.free 7
    clear hW hHeld hcf u2 hu2 RI2 RZ2 HVB fr1 fr21 fr12
    have hmk : ∀ W : World, (Instr.makeSlice 37 (.int .i64 0) (.int .i64 0)).run Tryd.prog W = .ok (.slice (some ⟨W.heap.size, 0, none⟩) 0 0) (W.alloc (.cells #[] 112)) := fun _ => by kernel_rfl
    go_wp2
    go_loop [3, 27] (fun s3 s27 => s3 = .slice (some ⟨wf.heap.size, 0, none⟩) 0 0 ∧ s27 = .int .i64 0) (fun _ _ => 0)
    case atStart => exact ⟨rfl, rfl⟩
    case round =>
      obtain ⟨rfl, rfl⟩ := hrel
      go_wp2_with (first
        | (refine wpList_load_Row rfl 86 (.tmp 1) rfl w.heap.size rfl #[.int .i64 4, .slice none 0 0, .int .i64 1, .int .i64 0, .int .i64 0, .int .i64 0, .int .i64 0, .slice (some ⟨wf.heap.size, 0, none⟩) 0 0, .int .i64 0, .int .i64 0, .int .i64 0, .int .i64 0, .slice none 0 0, .int .i64 0, .int .i64 fn, .int .i64 m.a, .int .i64 m.b, .int .i64 m.c, .int .i64 m.d, .int .i64 m.x, .int .i64 m.y, .slice va bs.length vcc] _ (show Row _ w.heap.size #[.int .i64 4, .slice none 0 0, .int .i64 1, .int .i64 0, .int .i64 0, .int .i64 0, .int .i64 0, .slice (some ⟨wf.heap.size, 0, none⟩) 0 0, .int .i64 0, .int .i64 0, .int .i64 0, .int .i64 0, .slice none 0 0, .int .i64 0, .int .i64 fn, .int .i64 m.a, .int .i64 m.b, .int .i64 m.c, .int .i64 m.d, .int .i64 m.x, .int .i64 m.y, .slice va bs.length vcc] from (by exact ro)) Tryd.underlying86 rfl infoIt rfl ?_)
        | ((refine wpList_store_Row rfl 86 (.tmp 2) _ rfl (w.heap.size + 1) #[.int .i64 4, .slice none 0 0, .int .i64 1, .int .i64 0, .int .i64 0, .int .i64 0, .int .i64 0, .slice (some ⟨wf.heap.size, 0, none⟩) 0 0, .int .i64 0, .int .i64 0, .int .i64 0, .int .i64 0, .slice none 0 0, .int .i64 0, .int .i64 fn, .int .i64 m.a, .int .i64 m.b, .int .i64 m.c, .int .i64 m.d, .int .i64 m.x, .int .i64 m.y, .slice va bs.length vcc] rfl rfl #[.int .i64 0, .slice none 0 0, .int .i64 0, .int .i64 0, .int .i64 0, .int .i64 0, .int .i64 0, .slice none 0 0, .int .i64 0, .int .i64 0, .int .i64 0, .int .i64 0, .slice none 0 0, .int .i64 0, .int .i64 0, .int .i64 0, .int .i64 0, .int .i64 0, .int .i64 0, .int .i64 0, .int .i64 0, .slice none 0 0] (by exact ra) infoIt rfl rfl (by simp [Value.oneCell']) ?_); intro w3 hr3 hc3))
      (try simp only [Exit.inBlock, Exit.then])
      refine bodyPost_ret (results_own _ _ (w.heap.size + 1) #[.int .i64 4, .slice none 0 0, .int .i64 1, .int .i64 0, .int .i64 0, .int .i64 0, .int .i64 0, .slice (some ⟨wf.heap.size, 0, none⟩) 0 0, .int .i64 0, .int .i64 0, .int .i64 0, .int .i64 0, .slice none 0 0, .int .i64 0, .int .i64 fn, .int .i64 m.a, .int .i64 m.b, .int .i64 m.c, .int .i64 m.d, .int .i64 m.x, .int .i64 m.y, .slice va bs.length vcc] rfl hr3 rfl) rfl ?_
      have hcz : Chg [w.heap.size, w.heap.size + 1] wf w3 := ((((Chg.refl [w.heap.size, w.heap.size + 1] wf).setCell (Or.inl (by simp)) _).alloc _).call hc3 (fun k hk => Or.inl (by simp at hk; simp [hk])))
      exact ⟨⟨⟨fn, m, bs⟩, some ⟨wf.heap.size, 0, none⟩, 0, va, vcc⟩, rfl, rfl, ints_chgS HF.out hcz (fun g hg => by have := hown g (own_of hg); simp; omega), fun g hg => by have := hown g (own_of hg); omega, ((Chg.of_up (S := []) uF).call hcz (fun k hk => by simp at hk; omega)).up⟩

end Go.Proofs.YtjdbefpfjhdmoaaDoor.Sh
end

section
namespace Go.Proofs.YtjdbefpfjhdmoaaDoor.Sh
open List renaming getElem_toArray → lga, getElem_cons_zero → lgz, getElem_cons_succ → lgs, setIfInBounds_toArray → lsa, set_cons_zero → lsz, set_cons_succ → lss
open Go.Proofs.YtjdbefpfjhdmoaaDoor.ZGB
open Go.ChangeShapes Go.WideShapes Go.ChangeAt Go.RowKit
open Go.Proofs.YtjdbefpfjhdmoaaDoor.Gs
open Go.Proofs.YtjdbefpfjhdmoaaDoor.FixM (fits)
open Go.Proofs.YtjdbefpfjhdmoaaDoor.MatM (M6)
set_option linter.unusedVariables false
set_option linter.unusedSimpArgs false

theorem infoIt3 : (Tryd.prog.info? 86).map (fun i => (i.zero, i.size, i.bytes)) = some (some (.agg #[.int .i64 0, .slice none 0 0, .int .i64 0, .int .i64 0, .int .i64 0, .int .i64 0, .int .i64 0, .slice none 0 0, .int .i64 0, .int .i64 0, .int .i64 0, .int .i64 0, .slice none 0 0, .int .i64 0, .int .i64 0, .int .i64 0, .int .i64 0, .int .i64 0, .int .i64 0, .int .i64 0, .int .i64 0, .slice none 0 0]), 22, 240) := by kernel_rfl
theorem own_callsL (fn : Int) (m : M6) (ca : Option Addr) (cc : Nat) (ba : Option Addr) (bc : Nat) (bs : List Int) (w : World) (hv : Ints .u8 w (.slice ba bs.length bc) bs) (hl : bs.length ≤ 1000000) :
    Calls Tryd.prog 68 #[.agg #[.int .i64 4, .slice none 0 0, .int .i64 1, .int .i64 0, .int .i64 0, .int .i64 0, .int .i64 0, .slice ca 0 cc, .int .i64 0, .int .i64 0, .int .i64 0, .int .i64 0, .slice none 0 0, .int .i64 0, .int .i64 fn, .int .i64 m.a, .int .i64 m.b, .int .i64 m.c, .int .i64 m.d, .int .i64 m.x, .int .i64 m.y, .slice ba bs.length bc]] w fun E w' => ∃ ca1 cc1 ba1 bc1, E = .returned (.agg #[.int .i64 4, .slice none 0 0, .int .i64 1, .int .i64 0, .int .i64 0, .int .i64 0, .int .i64 0, .slice ca1 0 cc1, .int .i64 0, .int .i64 0, .int .i64 0, .int .i64 0, .slice none 0 0, .int .i64 0, .int .i64 fn, .int .i64 m.a, .int .i64 m.b, .int .i64 m.c, .int .i64 m.d, .int .i64 m.x, .int .i64 m.y, .slice ba1 bs.length bc1]) ∧ Ints .u8 w' (.slice ba1 bs.length bc1) bs ∧ (∀ g ∈ own (.slice ba1 bs.length bc1), w.heap.size ≤ g) ∧ Up w w' :=
  (own_calls fn m ca cc ba bc bs w hv hl).mono (by
    rintro E w' ⟨⟨⟨f1, m1, b1⟩, ca1, cc1, ba1, bc1⟩, rfl, hk, h1, h2, h3⟩
    simp only [It.mk.injEq] at hk
    obtain ⟨rfl, rfl, rfl⟩ := hk
    exact ⟨ca1, cc1, ba1, bc1, rfl, h1, h2, h3⟩)
/-- what a new item leaves -/
def Laid (w : World) (c : Nat) (v : Value) (l : List Cl) (it : It) (w' : World) : Prop :=
  ∃ v' k, k.it = it ∧ Canv w' c v' (l ++ [k]) ∧ Chg (c :: own v) w w' ∧ Own w v v' ∧ ∀ g ∈ bys [k], w.heap.size ≤ g
theorem Laid.of_up {w w1 w2 : World} {c : Nat} {v : Value} {l : List Cl} {it : It} (hu : Up w w1) (h : Laid w1 c v l it w2) : Laid w c v l it w2 := by
  obtain ⟨v', k, h1, h2, h3, h4, h5⟩ := h
  exact ⟨v', k, h1, h2, ⟨h3.os.trans hu.os, h3.tape.trans hu.tape, h3.output.trans hu.output, Nat.le_trans hu.size h3.size, fun k hk hn => (h3.block k (Nat.lt_of_lt_of_le hk hu.size) hn).trans (hu.block k hk)⟩, fun g hg => (h4 g hg).imp id (fun h => Nat.le_trans hu.size h), fun g hg => Nat.le_trans hu.size (h5 g hg)⟩
theorem own_lt {w : World} {v : Value} {l : List Cl} (h : Its w v l) : ∀ b ∈ own v, b < w.heap.size := fun b hb => by
  rcases owned_form h with ⟨rfl, _⟩ | ⟨g, cap, rfl, _, _, h1⟩
  · simp [own, Value.ownBlock] at hb
  · simp [own, Value.ownBlock] at hb; omega
theorem bys_lt {w : World} {l : List Cl} (h : Bys w l) (h0 : ∀ k ∈ l, 0 < k.it.bs.length) : ∀ b ∈ bys l, b < w.heap.size := fun b hb => by
  obtain ⟨k, hk, hg⟩ := List.mem_flatMap.1 hb
  obtain ⟨ao, c, hv, _, _, _, h1, _⟩ := h k hk
  obtain ⟨g, o, rfl, hlt, _⟩ := h1 (h0 k hk)
  rw [hv] at hg
  simp [own, Value.ownBlock] at hg
  omega

set_option maxRecDepth 8000 in
set_option maxHeartbeats 4000000 in
theorem lay_calls (c : Nat) (v : Value) (l : List Cl) (fn : Int) (m : M6) (ca : Option Addr) (cc : Nat) (ba : Option Addr) (bc : Nat) (bs : List Int) (w : World) (h : Canv w c v l) (hl0 : ∀ k ∈ l, 0 < k.it.bs.length) (hl : l.length < 4096) (hv : Ints .u8 w (.slice ba bs.length bc) bs) (hbl : 0 < bs.length) (hl1 : bs.length ≤ 1000000) :
    Calls Tryd.prog 64 #[.pointer (some ⟨c, 0, none⟩), .agg #[.int .i64 4, .slice none 0 0, .int .i64 1, .int .i64 0, .int .i64 0, .int .i64 0, .int .i64 0, .slice ca 0 cc, .int .i64 0, .int .i64 0, .int .i64 0, .int .i64 0, .slice none 0 0, .int .i64 0, .int .i64 fn, .int .i64 m.a, .int .i64 m.b, .int .i64 m.c, .int .i64 m.d, .int .i64 m.x, .int .i64 m.y, .slice ba bs.length bc]] w fun E w' => E = .returned (.int .i64 0) ∧ Laid w c v l ⟨fn, m, bs⟩ w' := by
  obtain ⟨i0, hi, hz0, hz1, hz2⟩ := info_parts infoIt3
  have HV := Lib.hid hv
  have HOV := Lib.hid (own_lt h.its)
  have HL0 := Lib.hid hl0
  have HLC := Lib.hid h.row.lt
  have HBL := Lib.hid hbl
  obtain ⟨ao, cap, rfl⟩ := owned_val h.its
  have HC := Lib.hid h
  have q2 : w.cell? ⟨c, 2, none⟩ = some (.slice ao l.length cap) := h.row.cell 2 rfl
  have lc := h.row.lt
  have lc1 : c < w.heap.size + 1 := Nat.lt_succ_of_lt lc
  have t1 : decide ((4096 : Int) ≤ (l.length : Int)) = false := decide_eq_false (by omega)
  clear h hv hl0
  go_enter Tryd.func64, Tryd.ntmps64
  go_wp2
  refine wp_region_held_drew (S := fun w' => Row w' w.heap.size #[.int .i64 4, .slice none 0 0, .int .i64 1, .int .i64 0, .int .i64 0, .int .i64 0, .int .i64 0, .slice ca 0 cc, .int .i64 0, .int .i64 0, .int .i64 0, .int .i64 0, .slice none 0 0, .int .i64 0, .int .i64 fn, .int .i64 m.a, .int .i64 m.b, .int .i64 m.c, .int .i64 m.d, .int .i64 m.x, .int .i64 m.y, .slice ba bs.length bc]) (by kernel_rfl) ?_ (fun hHeld => ?_)
  · exact Row.drew (show Row _ w.heap.size #[.int .i64 4, .slice none 0 0, .int .i64 1, .int .i64 0, .int .i64 0, .int .i64 0, .int .i64 0, .slice ca 0 cc, .int .i64 0, .int .i64 0, .int .i64 0, .int .i64 0, .slice none 0 0, .int .i64 0, .int .i64 fn, .int .i64 m.a, .int .i64 m.b, .int .i64 m.c, .int .i64 m.d, .int .i64 m.x, .int .i64 m.y, .slice ba bs.length bc] from (by exact ra))
  refine wpAnyH_take (i := 0) (v := ?_) rfl (by kernel_rfl) (by kernel_rfl) (by kernel_rfl) (fun _ _ _ h => h) (Or.inl ⟨by rfl, ?_⟩) (by assumption) ?_
  rotate_left
  · intro w2 hSw
    (try dsimp only at hSw)
    (try (obtain ⟨hs1, hs2, hs3⟩ := hSw))
    go_simp
    (try (with_reducible rfl))
  (try simp only [Act.put, lga, lgz, lgs, lsa, lsz, lss])
  refine wpAnyH_take (i := 1) (v := ?_) rfl (by kernel_rfl) (by kernel_rfl) (by kernel_rfl) (fun _ _ _ h => h) (Or.inl ⟨by rfl, ?_⟩) (by assumption) ?_
  rotate_left
  · intro w2 hSw
    (try dsimp only at hSw)
    (try (obtain ⟨hs1, hs2, hs3⟩ := hSw))
    go_simp
    (try (with_reducible rfl))
  (try simp only [Act.put, lga, lgz, lgs, lsa, lsz, lss])
  refine wpAnyH_take (i := 2) (v := ?_) rfl (by kernel_rfl) (by kernel_rfl) (by kernel_rfl) (fun _ _ _ h => h) (Or.inl ⟨by rfl, ?_⟩) (by assumption) ?_
  rotate_left
  · intro w2 hSw
    (try dsimp only at hSw)
    (try (obtain ⟨hs1, hs2, hs3⟩ := hSw))
    go_simp
    (try (with_reducible rfl))
  (try simp only [Act.put, lga, lgz, lgs, lsa, lsz, lss])
  refine wpAnyH_take (i := 3) (v := ?_) rfl (by kernel_rfl) (by kernel_rfl) (by kernel_rfl) (fun _ _ _ h => h) (Or.inl ⟨by rfl, ?_⟩) (by assumption) ?_
  rotate_left
  · intro w2 hSw
    (try dsimp only at hSw)
    (try (obtain ⟨hs1, hs2, hs3⟩ := hSw))
    go_simp
    (try (with_reducible rfl))
  (try simp only [Act.put, lga, lgz, lgs, lsa, lsz, lss])
  refine wpAnyH_take (i := 4) (v := ?_) rfl (by kernel_rfl) (by kernel_rfl) (by kernel_rfl) (fun _ _ _ h => h) (Or.inl ⟨by rfl, ?_⟩) (by assumption) ?_
  rotate_left
  · intro w2 hSw
    (try dsimp only at hSw)
    (try (obtain ⟨hs1, hs2, hs3⟩ := hSw))
    go_simp
    (try (with_reducible rfl))
  (try simp only [Act.put, lga, lgz, lgs, lsa, lsz, lss])
  refine wpAnyH_take (i := 6) rfl (by kernel_rfl) (by kernel_rfl) (by kernel_rfl) (fun _ _ _ h => h) (yieldsIf_load_mid (by rfl) 86 (.tmp 3) rfl w.heap.size 0 rfl #[.int .i64 4, .slice none 0 0, .int .i64 1, .int .i64 0, .int .i64 0, .int .i64 0, .int .i64 0, .slice ca 0 cc, .int .i64 0, .int .i64 0, .int .i64 0, .int .i64 0, .slice none 0 0, .int .i64 0, .int .i64 fn, .int .i64 m.a, .int .i64 m.b, .int .i64 m.c, .int .i64 m.d, .int .i64 m.x, .int .i64 m.y, .slice ba bs.length bc].toList _ (fun _ h => rng0 h) Tryd.underlying86 rfl (by exact infoIt)) (by assumption) ?_
  (try simp only [Act.put, lga, lgz, lgs, lsa, lsz, lss])
  refine wpAnyH_ready (rs := [5, 7]) (by decide +kernel) (by simp) ?_
  refine AllReadyH.cons rfl (fun K hK => ?_) (AllReadyH.cons rfl (fun K hK => ?_) (AllReadyH.nil))
  · skip
    (try simp only [lga, lgz, lgs])
    (go_simp)
    refine hK.out _ _ ?_ (fun hHeld => ?_)
    · exact hHeld
    clear hK K
    (try simp only [Act.put, lga, lgz, lgs, lsa, lsz, lss])
    refine wpAnyH_ready (rs := [7]) (by decide +kernel) (by simp) ?_
    refine AllReadyH.cons rfl (fun K hK => ?_) (AllReadyH.nil)
    (try simp only [lga, lgz, lgs])
    (go_simp; go_at_call 68; (with_reducible refine (own_callsL fn m ca cc ba bc bs _ (HV.out.up (by exact ua)) hl1).mono ?_); rintro E w1 ⟨ca1, cc1, ba1, bc1, rfl, hb1, ho1, hu1⟩; have z1 := hu1.size; (try simp at z1); (try simp at ho1); have RI1 : Row w1 w.heap.size #[.int .i64 4, .slice none 0 0, .int .i64 1, .int .i64 0, .int .i64 0, .int .i64 0, .int .i64 0, .slice ca 0 cc, .int .i64 0, .int .i64 0, .int .i64 0, .int .i64 0, .slice none 0 0, .int .i64 0, .int .i64 fn, .int .i64 m.a, .int .i64 m.b, .int .i64 m.c, .int .i64 m.d, .int .i64 m.x, .int .i64 m.y, .slice ba bs.length bc] := Row.up (show Row _ w.heap.size #[.int .i64 4, .slice none 0 0, .int .i64 1, .int .i64 0, .int .i64 0, .int .i64 0, .int .i64 0, .slice ca 0 cc, .int .i64 0, .int .i64 0, .int .i64 0, .int .i64 0, .slice none 0 0, .int .i64 0, .int .i64 fn, .int .i64 m.a, .int .i64 m.b, .int .i64 m.c, .int .i64 m.d, .int .i64 m.x, .int .i64 m.y, .slice ba bs.length bc] by exact ra) hu1; have u1 : Up w w1 := (by exact ua); have RC1 : Row w1 c (cvC (.slice ao l.length cap)) := HC.out.row.up u1; have q1 : w1.cell? ⟨c, 2, none⟩ = some (.slice ao l.length cap) := RC1.cell 2 rfl; have lc1 := RC1.lt; have lc11 : c < w1.heap.size + 1 := Nat.lt_succ_of_lt lc1; have HB1 := Lib.hid hb1; have HO1 := Lib.hid ho1; clear hb1 ho1; (try dsimp only))
    refine hK.out _ _ ?_ (fun hHeld => ?_)
    · exact RI1
    clear hK K
    (try simp only [Act.put, lga, lgz, lgs, lsa, lsz, lss])
    refine wpAnyH_ready (rs := [8]) (by decide +kernel) (by simp) ?_
    refine AllReadyH.cons rfl (fun K hK => ?_) (AllReadyH.nil)
    (try simp only [lga, lgz, lgs])
    (go_simp)
    refine hK.out _ _ ?_ (fun hHeld => ?_)
    · exact RI1.alloc _
    clear hK K
    (try simp only [Act.put, lga, lgz, lgs, lsa, lsz, lss])
    refine wpAnyH_ready (rs := [9]) (by decide +kernel) (by simp) ?_
    refine AllReadyH.cons rfl (fun K hK => ?_) (AllReadyH.nil)
    (try simp only [lga, lgz, lgs])
    (rw [if_pos (by rfl)]; refine wp_append_lies _ (.tmp 17) (.tmp 20) 43 rfl 0 86 i0 (.agg #[.int .i64 0, .slice none 0 0, .int .i64 0, .int .i64 0, .int .i64 0, .int .i64 0, .int .i64 0, .slice none 0 0, .int .i64 0, .int .i64 0, .int .i64 0, .int .i64 0, .slice none 0 0, .int .i64 0, .int .i64 0, .int .i64 0, .int .i64 0, .int .i64 0, .int .i64 0, .int .i64 0, .int .i64 0, .slice none 0 0]) 22 240 Tryd.underlying43 hi hz0 hz1 hz2 rfl (by decide) (.slice ao l.length cap) l.length (clCells l) rfl (owned_up HC.out.its (by exact ua)) ⟨w1.heap.size, 0, none⟩ 1 1 #[.int .i64 4, .slice none 0 0, .int .i64 1, .int .i64 0, .int .i64 0, .int .i64 0, .int .i64 0, .slice ca1 0 cc1, .int .i64 0, .int .i64 0, .int .i64 0, .int .i64 0, .slice none 0 0, .int .i64 0, .int .i64 fn, .int .i64 m.a, .int .i64 m.b, .int .i64 m.c, .int .i64 m.d, .int .i64 m.x, .int .i64 m.y, .slice ba1 bs.length bc1].toList rfl rfl (news_at (by exact ra) rfl) (by simp [Value.oneCell']) (by decide) (by unfold maxLen; omega) (by omega) (Nat.zero_le _) _ rfl ?_; intro g2 cap2 w2 hown2 hgr hat hg2; have z2 := hgr.size; (try simp at z2); have HC2 : Chg (own (.slice ao l.length cap)) w w2 := Chg.grown (Chg.of_up (by exact ua)) hgr (fun k hk => Or.inl (own_mem hk)); have RB2 : Row w2 c (cvC (.slice ao l.length cap)) := HC.out.row.chg HC2 HC.out.off; have RI2 : Row w2 w.heap.size #[.int .i64 4, .slice none 0 0, .int .i64 1, .int .i64 0, .int .i64 0, .int .i64 0, .int .i64 0, .slice ca 0 cc, .int .i64 0, .int .i64 0, .int .i64 0, .int .i64 0, .slice none 0 0, .int .i64 0, .int .i64 fn, .int .i64 m.a, .int .i64 m.b, .int .i64 m.c, .int .i64 m.d, .int .i64 m.x, .int .i64 m.y, .slice ba bs.length bc] := Row.chg (S := own (.slice ao l.length cap)) (show Row _ w.heap.size #[.int .i64 4, .slice none 0 0, .int .i64 1, .int .i64 0, .int .i64 0, .int .i64 0, .int .i64 0, .slice ca 0 cc, .int .i64 0, .int .i64 0, .int .i64 0, .int .i64 0, .slice none 0 0, .int .i64 0, .int .i64 fn, .int .i64 m.a, .int .i64 m.b, .int .i64 m.c, .int .i64 m.d, .int .i64 m.x, .int .i64 m.y, .slice ba bs.length bc] by exact ra) (Chg.grown (Chg.refl _ _) hgr (fun k hk => Or.inl (own_mem hk))) (fun hb => by have := HOV.out _ hb; omega); have HO2 := Lib.hid hown2; have HAT := Lib.hid hat; have HCC := Lib.hid (show Chg (own (.slice ao l.length cap)) w1 w2 from Chg.grown (Chg.of_up (by exact ua)) hgr (fun k hk => Or.inl (own_mem hk))); have rb := RB2.cell 2 rfl; have rf := RB2.free 2; have lc2 := RB2.lt; clear hown2 hat hgr)
    refine hK.out _ _ ?_ (fun hHeld => ?_)
    · exact RI2
    clear hK K
    (try simp only [Act.put, lga, lgz, lgs, lsa, lsz, lss])
    refine wpAnyH_take (i := 10) (v := ?_) rfl (by kernel_rfl) (by kernel_rfl) (by kernel_rfl) (fun _ _ _ h => h) (Or.inl ⟨by rfl, ?_⟩) (by assumption) ?_
    rotate_left
    · intro w2 hSw
      (try dsimp only at hSw)
      (try (obtain ⟨hs1, hs2, hs3⟩ := hSw))
      go_simp
      (try (with_reducible rfl))
    (try simp only [Act.put, lga, lgz, lgs, lsa, lsz, lss])
    refine wpAnyH_take (i := 11) (v := ?_) rfl (by kernel_rfl) (by kernel_rfl) (by kernel_rfl) (fun _ _ _ h => h) (Or.inl ⟨by rfl, ?_⟩) (by assumption) ?_
    rotate_left
    · intro w2 hSw
      (try dsimp only at hSw)
      (try (obtain ⟨hs1, hs2, hs3⟩ := hSw))
      go_simp
      (try (with_reducible rfl))
    (try simp only [Act.put, lga, lgz, lgs, lsa, lsz, lss])
    refine wpAnyH_take (i := 12) (v := ?_) rfl (by kernel_rfl) (by kernel_rfl) (by kernel_rfl) (fun _ _ _ h => h) (Or.inl ⟨by rfl, ?_⟩) (by assumption) ?_
    rotate_left
    · intro w2 hSw
      (try dsimp only at hSw)
      (try (obtain ⟨hs1, hs2, hs3⟩ := hSw))
      go_simp
      (try (with_reducible rfl))
    (try simp only [Act.put, lga, lgz, lgs, lsa, lsz, lss])
    refine wpAnyH_ready (rs := [13]) (by decide +kernel) (by simp) ?_
    refine AllReadyH.cons rfl (fun K hK => ?_) (AllReadyH.nil)
    (try simp only [lga, lgz, lgs])
    (go_simp)
    refine hK.out _ _ ?_ (fun hHeld => ?_)
    · exact Row.chg RI2 ((Chg.refl [c] w2).setCell (Or.inl (by simp)) _) (by simp; omega)
    clear hK K
    (try simp only [Act.put, lga, lgz, lgs, lsa, lsz, lss])
    refine wpAnyH_done (by kernel_rfl) ?_ _
    go_wp2
    go_ret
    have hgc : g2 ≠ c := by
      rcases HAT.out with h1 | h1
      · exact fun e => HC.out.off (own_mem (by rw [h1, e]))
      · simp at h1; omega
    have hcs : Chg (c :: own (.slice ao l.length cap)) w1 (w2.setCell ⟨c, 2, none⟩ (.slice (some ⟨g2, 0, none⟩) (l.length + 1) cap2)) := (HCC.out.mono (fun x hx => List.mem_cons_of_mem _ hx)).setCell (Or.inl (by simp)) _
    have hcw : Chg (c :: own (.slice ao l.length cap)) w (w2.setCell ⟨c, 2, none⟩ (.slice (some ⟨g2, 0, none⟩) (l.length + 1) cap2)) := (HC2.mono (fun x hx => List.mem_cons_of_mem _ hx)).setCell (Or.inl (by simp)) _
    refine ⟨rfl, .slice (some ⟨g2, 0, none⟩) (l.length + 1) cap2, ⟨⟨fn, m, bs⟩, ca1, cc1, ba1, bc1⟩, rfl, ⟨Row.put RB2 rfl, ?_, ?_, ?_, ?_⟩, hcw, ?_, ?_⟩
    · show World.ownsRow _ _ _ _ _ (l ++ [_]).length _
      rw [List.length_append, clCells_append]
      exact ownsRow_setCell_other HO2.out (by simp [Value.ownBlock]; exact hgc) _
    · intro k hk
      rcases List.mem_append.1 hk with h1 | h1
      · exact ints_chgS (HC.out.bytes k h1) hcw (fun g hg h2 => by
          have h3 := HC.out.apart g (List.mem_flatMap.2 ⟨k, h1, hg⟩)
          rcases List.mem_cons.1 h2 with h4 | h4
          · exact h3.1 h4
          · exact h3.2 h4)
      · rw [List.mem_singleton.1 h1]
        refine ints_chgS HB1.out hcs (fun g hg h2 => ?_)
        have h5 := HO1.out g hg
        rcases List.mem_cons.1 h2 with h4 | h4
        · have := HLC.out; omega
        · have := HOV.out g h4; omega
    · intro b hb
      rw [bys_append] at hb
      rcases List.mem_append.1 hb with h1 | h1
      · have h3 := HC.out.apart b h1
        refine ⟨h3.1, fun h4 => ?_⟩
        have h4 := own_of h4
        simp only [Value.ownBlock, Option.some.injEq] at h4
        subst h4
        rcases HAT.out with h5 | h5
        · exact h3.2 (own_mem h5)
        · have := bys_lt HC.out.bytes HL0.out _ h1; simp at h5; omega
      · have h5 : b ∈ own (.slice ba1 bs.length bc1) := by simpa [bys, Cl.bv] using h1
        have h6 := HO1.out b h5
        refine ⟨by have := HLC.out; omega, fun h4 => ?_⟩
        have h4 := own_of h4
        simp only [Value.ownBlock, Option.some.injEq] at h4
        subst h4
        have h7 := bys_lt (l := [⟨⟨fn, m, bs⟩, ca1, cc1, ba1, bc1⟩]) (w := w1) (fun k hk => by rw [List.mem_singleton.1 hk]; exact HB1.out) (fun k hk => by rw [List.mem_singleton.1 hk]; exact HBL.out) _ h1
        rcases HAT.out with h5 | h5
        · have := HOV.out _ (own_mem h5); omega
        · simp at h5; omega
    · intro h4
      have h4 := own_of h4
      simp only [Value.ownBlock, Option.some.injEq] at h4
      exact hgc h4
    · intro g hg
      simp only [Value.ownBlock, Option.some.injEq] at hg
      subst hg
      rcases HAT.out with h5 | h5
      · exact Or.inl h5
      · exact Or.inr (by simp at h5; omega)
    · intro g hg
      have := HO1.out g (by simpa [bys, Cl.bv] using hg)
      omega
  · skip
    (try simp only [lga, lgz, lgs])
    (go_simp; go_at_call 68; (with_reducible refine (own_callsL fn m ca cc ba bc bs _ (HV.out.up (by exact ua)) hl1).mono ?_); rintro E w1 ⟨ca1, cc1, ba1, bc1, rfl, hb1, ho1, hu1⟩; have z1 := hu1.size; (try simp at z1); (try simp at ho1); have RI1 : Row w1 w.heap.size #[.int .i64 4, .slice none 0 0, .int .i64 1, .int .i64 0, .int .i64 0, .int .i64 0, .int .i64 0, .slice ca 0 cc, .int .i64 0, .int .i64 0, .int .i64 0, .int .i64 0, .slice none 0 0, .int .i64 0, .int .i64 fn, .int .i64 m.a, .int .i64 m.b, .int .i64 m.c, .int .i64 m.d, .int .i64 m.x, .int .i64 m.y, .slice ba bs.length bc] := Row.up (show Row _ w.heap.size #[.int .i64 4, .slice none 0 0, .int .i64 1, .int .i64 0, .int .i64 0, .int .i64 0, .int .i64 0, .slice ca 0 cc, .int .i64 0, .int .i64 0, .int .i64 0, .int .i64 0, .slice none 0 0, .int .i64 0, .int .i64 fn, .int .i64 m.a, .int .i64 m.b, .int .i64 m.c, .int .i64 m.d, .int .i64 m.x, .int .i64 m.y, .slice ba bs.length bc] by exact ra) hu1; have u1 : Up w w1 := (by exact ua); have RC1 : Row w1 c (cvC (.slice ao l.length cap)) := HC.out.row.up u1; have q1 : w1.cell? ⟨c, 2, none⟩ = some (.slice ao l.length cap) := RC1.cell 2 rfl; have lc1 := RC1.lt; have lc11 : c < w1.heap.size + 1 := Nat.lt_succ_of_lt lc1; have HB1 := Lib.hid hb1; have HO1 := Lib.hid ho1; clear hb1 ho1; (try dsimp only))
    refine hK.out _ _ ?_ (fun hHeld => ?_)
    · exact RI1
    clear hK K
    (try simp only [Act.put, lga, lgz, lgs, lsa, lsz, lss])
    refine wpAnyH_ready (rs := [5, 8]) (by decide +kernel) (by simp) ?_
    refine AllReadyH.cons rfl (fun K hK => ?_) (AllReadyH.cons rfl (fun K hK => ?_) (AllReadyH.nil))
    · skip
      (try simp only [lga, lgz, lgs])
      (go_simp)
      refine hK.out _ _ ?_ (fun hHeld => ?_)
      · exact hHeld
      clear hK K
      (try simp only [Act.put, lga, lgz, lgs, lsa, lsz, lss])
      refine wpAnyH_ready (rs := [8]) (by decide +kernel) (by simp) ?_
      refine AllReadyH.cons rfl (fun K hK => ?_) (AllReadyH.nil)
      (try simp only [lga, lgz, lgs])
      (go_simp)
      refine hK.out _ _ ?_ (fun hHeld => ?_)
      · exact RI1.alloc _
      clear hK K
      (try simp only [Act.put, lga, lgz, lgs, lsa, lsz, lss])
      refine wpAnyH_ready (rs := [9]) (by decide +kernel) (by simp) ?_
      refine AllReadyH.cons rfl (fun K hK => ?_) (AllReadyH.nil)
      (try simp only [lga, lgz, lgs])
      (rw [if_pos (by rfl)]; refine wp_append_lies _ (.tmp 17) (.tmp 20) 43 rfl 0 86 i0 (.agg #[.int .i64 0, .slice none 0 0, .int .i64 0, .int .i64 0, .int .i64 0, .int .i64 0, .int .i64 0, .slice none 0 0, .int .i64 0, .int .i64 0, .int .i64 0, .int .i64 0, .slice none 0 0, .int .i64 0, .int .i64 0, .int .i64 0, .int .i64 0, .int .i64 0, .int .i64 0, .int .i64 0, .int .i64 0, .slice none 0 0]) 22 240 Tryd.underlying43 hi hz0 hz1 hz2 rfl (by decide) (.slice ao l.length cap) l.length (clCells l) rfl (owned_up HC.out.its (by exact ua)) ⟨w1.heap.size, 0, none⟩ 1 1 #[.int .i64 4, .slice none 0 0, .int .i64 1, .int .i64 0, .int .i64 0, .int .i64 0, .int .i64 0, .slice ca1 0 cc1, .int .i64 0, .int .i64 0, .int .i64 0, .int .i64 0, .slice none 0 0, .int .i64 0, .int .i64 fn, .int .i64 m.a, .int .i64 m.b, .int .i64 m.c, .int .i64 m.d, .int .i64 m.x, .int .i64 m.y, .slice ba1 bs.length bc1].toList rfl rfl (news_at (by exact ra) rfl) (by simp [Value.oneCell']) (by decide) (by unfold maxLen; omega) (by omega) (Nat.zero_le _) _ rfl ?_; intro g2 cap2 w2 hown2 hgr hat hg2; have z2 := hgr.size; (try simp at z2); have HC2 : Chg (own (.slice ao l.length cap)) w w2 := Chg.grown (Chg.of_up (by exact ua)) hgr (fun k hk => Or.inl (own_mem hk)); have RB2 : Row w2 c (cvC (.slice ao l.length cap)) := HC.out.row.chg HC2 HC.out.off; have RI2 : Row w2 w.heap.size #[.int .i64 4, .slice none 0 0, .int .i64 1, .int .i64 0, .int .i64 0, .int .i64 0, .int .i64 0, .slice ca 0 cc, .int .i64 0, .int .i64 0, .int .i64 0, .int .i64 0, .slice none 0 0, .int .i64 0, .int .i64 fn, .int .i64 m.a, .int .i64 m.b, .int .i64 m.c, .int .i64 m.d, .int .i64 m.x, .int .i64 m.y, .slice ba bs.length bc] := Row.chg (S := own (.slice ao l.length cap)) (show Row _ w.heap.size #[.int .i64 4, .slice none 0 0, .int .i64 1, .int .i64 0, .int .i64 0, .int .i64 0, .int .i64 0, .slice ca 0 cc, .int .i64 0, .int .i64 0, .int .i64 0, .int .i64 0, .slice none 0 0, .int .i64 0, .int .i64 fn, .int .i64 m.a, .int .i64 m.b, .int .i64 m.c, .int .i64 m.d, .int .i64 m.x, .int .i64 m.y, .slice ba bs.length bc] by exact ra) (Chg.grown (Chg.refl _ _) hgr (fun k hk => Or.inl (own_mem hk))) (fun hb => by have := HOV.out _ hb; omega); have HO2 := Lib.hid hown2; have HAT := Lib.hid hat; have HCC := Lib.hid (show Chg (own (.slice ao l.length cap)) w1 w2 from Chg.grown (Chg.of_up (by exact ua)) hgr (fun k hk => Or.inl (own_mem hk))); have rb := RB2.cell 2 rfl; have rf := RB2.free 2; have lc2 := RB2.lt; clear hown2 hat hgr)
      refine hK.out _ _ ?_ (fun hHeld => ?_)
      · exact RI2
      clear hK K
      (try simp only [Act.put, lga, lgz, lgs, lsa, lsz, lss])
      refine wpAnyH_take (i := 10) (v := ?_) rfl (by kernel_rfl) (by kernel_rfl) (by kernel_rfl) (fun _ _ _ h => h) (Or.inl ⟨by rfl, ?_⟩) (by assumption) ?_
      rotate_left
      · intro w2 hSw
        (try dsimp only at hSw)
        (try (obtain ⟨hs1, hs2, hs3⟩ := hSw))
        go_simp
        (try (with_reducible rfl))
      (try simp only [Act.put, lga, lgz, lgs, lsa, lsz, lss])
      refine wpAnyH_take (i := 11) (v := ?_) rfl (by kernel_rfl) (by kernel_rfl) (by kernel_rfl) (fun _ _ _ h => h) (Or.inl ⟨by rfl, ?_⟩) (by assumption) ?_
      rotate_left
      · intro w2 hSw
        (try dsimp only at hSw)
        (try (obtain ⟨hs1, hs2, hs3⟩ := hSw))
        go_simp
        (try (with_reducible rfl))
      (try simp only [Act.put, lga, lgz, lgs, lsa, lsz, lss])
      refine wpAnyH_take (i := 12) (v := ?_) rfl (by kernel_rfl) (by kernel_rfl) (by kernel_rfl) (fun _ _ _ h => h) (Or.inl ⟨by rfl, ?_⟩) (by assumption) ?_
      rotate_left
      · intro w2 hSw
        (try dsimp only at hSw)
        (try (obtain ⟨hs1, hs2, hs3⟩ := hSw))
        go_simp
        (try (with_reducible rfl))
      (try simp only [Act.put, lga, lgz, lgs, lsa, lsz, lss])
      refine wpAnyH_ready (rs := [13]) (by decide +kernel) (by simp) ?_
      refine AllReadyH.cons rfl (fun K hK => ?_) (AllReadyH.nil)
      (try simp only [lga, lgz, lgs])
      (go_simp)
      refine hK.out _ _ ?_ (fun hHeld => ?_)
      · exact Row.chg RI2 ((Chg.refl [c] w2).setCell (Or.inl (by simp)) _) (by simp; omega)
      clear hK K
      (try simp only [Act.put, lga, lgz, lgs, lsa, lsz, lss])
      refine wpAnyH_done (by kernel_rfl) ?_ _
      go_wp2
      go_ret
      have hgc : g2 ≠ c := by
        rcases HAT.out with h1 | h1
        · exact fun e => HC.out.off (own_mem (by rw [h1, e]))
        · simp at h1; omega
      have hcs : Chg (c :: own (.slice ao l.length cap)) w1 (w2.setCell ⟨c, 2, none⟩ (.slice (some ⟨g2, 0, none⟩) (l.length + 1) cap2)) := (HCC.out.mono (fun x hx => List.mem_cons_of_mem _ hx)).setCell (Or.inl (by simp)) _
      have hcw : Chg (c :: own (.slice ao l.length cap)) w (w2.setCell ⟨c, 2, none⟩ (.slice (some ⟨g2, 0, none⟩) (l.length + 1) cap2)) := (HC2.mono (fun x hx => List.mem_cons_of_mem _ hx)).setCell (Or.inl (by simp)) _
      refine ⟨rfl, .slice (some ⟨g2, 0, none⟩) (l.length + 1) cap2, ⟨⟨fn, m, bs⟩, ca1, cc1, ba1, bc1⟩, rfl, ⟨Row.put RB2 rfl, ?_, ?_, ?_, ?_⟩, hcw, ?_, ?_⟩
      · show World.ownsRow _ _ _ _ _ (l ++ [_]).length _
        rw [List.length_append, clCells_append]
        exact ownsRow_setCell_other HO2.out (by simp [Value.ownBlock]; exact hgc) _
      · intro k hk
        rcases List.mem_append.1 hk with h1 | h1
        · exact ints_chgS (HC.out.bytes k h1) hcw (fun g hg h2 => by
            have h3 := HC.out.apart g (List.mem_flatMap.2 ⟨k, h1, hg⟩)
            rcases List.mem_cons.1 h2 with h4 | h4
            · exact h3.1 h4
            · exact h3.2 h4)
        · rw [List.mem_singleton.1 h1]
          refine ints_chgS HB1.out hcs (fun g hg h2 => ?_)
          have h5 := HO1.out g hg
          rcases List.mem_cons.1 h2 with h4 | h4
          · have := HLC.out; omega
          · have := HOV.out g h4; omega
      · intro b hb
        rw [bys_append] at hb
        rcases List.mem_append.1 hb with h1 | h1
        · have h3 := HC.out.apart b h1
          refine ⟨h3.1, fun h4 => ?_⟩
          have h4 := own_of h4
          simp only [Value.ownBlock, Option.some.injEq] at h4
          subst h4
          rcases HAT.out with h5 | h5
          · exact h3.2 (own_mem h5)
          · have := bys_lt HC.out.bytes HL0.out _ h1; simp at h5; omega
        · have h5 : b ∈ own (.slice ba1 bs.length bc1) := by simpa [bys, Cl.bv] using h1
          have h6 := HO1.out b h5
          refine ⟨by have := HLC.out; omega, fun h4 => ?_⟩
          have h4 := own_of h4
          simp only [Value.ownBlock, Option.some.injEq] at h4
          subst h4
          have h7 := bys_lt (l := [⟨⟨fn, m, bs⟩, ca1, cc1, ba1, bc1⟩]) (w := w1) (fun k hk => by rw [List.mem_singleton.1 hk]; exact HB1.out) (fun k hk => by rw [List.mem_singleton.1 hk]; exact HBL.out) _ h1
          rcases HAT.out with h5 | h5
          · have := HOV.out _ (own_mem h5); omega
          · simp at h5; omega
      · intro h4
        have h4 := own_of h4
        simp only [Value.ownBlock, Option.some.injEq] at h4
        exact hgc h4
      · intro g hg
        simp only [Value.ownBlock, Option.some.injEq] at hg
        subst hg
        rcases HAT.out with h5 | h5
        · exact Or.inl h5
        · exact Or.inr (by simp at h5; omega)
      · intro g hg
        have := HO1.out g (by simpa [bys, Cl.bv] using hg)
        omega
    · skip
      (try simp only [lga, lgz, lgs])
      (go_simp)
      refine hK.out _ _ ?_ (fun hHeld => ?_)
      · exact RI1.alloc _
      clear hK K
      (try simp only [Act.put, lga, lgz, lgs, lsa, lsz, lss])
      refine wpAnyH_ready (rs := [5]) (by decide +kernel) (by simp) ?_
      refine AllReadyH.cons rfl (fun K hK => ?_) (AllReadyH.nil)
      (try simp only [lga, lgz, lgs])
      (go_simp)
      refine hK.out _ _ ?_ (fun hHeld => ?_)
      · exact RI1.alloc _
      clear hK K
      (try simp only [Act.put, lga, lgz, lgs, lsa, lsz, lss])
      refine wpAnyH_ready (rs := [9]) (by decide +kernel) (by simp) ?_
      refine AllReadyH.cons rfl (fun K hK => ?_) (AllReadyH.nil)
      (try simp only [lga, lgz, lgs])
      (rw [if_pos (by rfl)]; refine wp_append_lies _ (.tmp 17) (.tmp 20) 43 rfl 0 86 i0 (.agg #[.int .i64 0, .slice none 0 0, .int .i64 0, .int .i64 0, .int .i64 0, .int .i64 0, .int .i64 0, .slice none 0 0, .int .i64 0, .int .i64 0, .int .i64 0, .int .i64 0, .slice none 0 0, .int .i64 0, .int .i64 0, .int .i64 0, .int .i64 0, .int .i64 0, .int .i64 0, .int .i64 0, .int .i64 0, .slice none 0 0]) 22 240 Tryd.underlying43 hi hz0 hz1 hz2 rfl (by decide) (.slice ao l.length cap) l.length (clCells l) rfl (owned_up HC.out.its (by exact ua)) ⟨w1.heap.size, 0, none⟩ 1 1 #[.int .i64 4, .slice none 0 0, .int .i64 1, .int .i64 0, .int .i64 0, .int .i64 0, .int .i64 0, .slice ca1 0 cc1, .int .i64 0, .int .i64 0, .int .i64 0, .int .i64 0, .slice none 0 0, .int .i64 0, .int .i64 fn, .int .i64 m.a, .int .i64 m.b, .int .i64 m.c, .int .i64 m.d, .int .i64 m.x, .int .i64 m.y, .slice ba1 bs.length bc1].toList rfl rfl (news_at (by exact ra) rfl) (by simp [Value.oneCell']) (by decide) (by unfold maxLen; omega) (by omega) (Nat.zero_le _) _ rfl ?_; intro g2 cap2 w2 hown2 hgr hat hg2; have z2 := hgr.size; (try simp at z2); have HC2 : Chg (own (.slice ao l.length cap)) w w2 := Chg.grown (Chg.of_up (by exact ua)) hgr (fun k hk => Or.inl (own_mem hk)); have RB2 : Row w2 c (cvC (.slice ao l.length cap)) := HC.out.row.chg HC2 HC.out.off; have RI2 : Row w2 w.heap.size #[.int .i64 4, .slice none 0 0, .int .i64 1, .int .i64 0, .int .i64 0, .int .i64 0, .int .i64 0, .slice ca 0 cc, .int .i64 0, .int .i64 0, .int .i64 0, .int .i64 0, .slice none 0 0, .int .i64 0, .int .i64 fn, .int .i64 m.a, .int .i64 m.b, .int .i64 m.c, .int .i64 m.d, .int .i64 m.x, .int .i64 m.y, .slice ba bs.length bc] := Row.chg (S := own (.slice ao l.length cap)) (show Row _ w.heap.size #[.int .i64 4, .slice none 0 0, .int .i64 1, .int .i64 0, .int .i64 0, .int .i64 0, .int .i64 0, .slice ca 0 cc, .int .i64 0, .int .i64 0, .int .i64 0, .int .i64 0, .slice none 0 0, .int .i64 0, .int .i64 fn, .int .i64 m.a, .int .i64 m.b, .int .i64 m.c, .int .i64 m.d, .int .i64 m.x, .int .i64 m.y, .slice ba bs.length bc] by exact ra) (Chg.grown (Chg.refl _ _) hgr (fun k hk => Or.inl (own_mem hk))) (fun hb => by have := HOV.out _ hb; omega); have HO2 := Lib.hid hown2; have HAT := Lib.hid hat; have HCC := Lib.hid (show Chg (own (.slice ao l.length cap)) w1 w2 from Chg.grown (Chg.of_up (by exact ua)) hgr (fun k hk => Or.inl (own_mem hk))); have rb := RB2.cell 2 rfl; have rf := RB2.free 2; have lc2 := RB2.lt; clear hown2 hat hgr)
      refine hK.out _ _ ?_ (fun hHeld => ?_)
      · exact RI2
      clear hK K
      (try simp only [Act.put, lga, lgz, lgs, lsa, lsz, lss])
      refine wpAnyH_take (i := 10) (v := ?_) rfl (by kernel_rfl) (by kernel_rfl) (by kernel_rfl) (fun _ _ _ h => h) (Or.inl ⟨by rfl, ?_⟩) (by assumption) ?_
      rotate_left
      · intro w2 hSw
        (try dsimp only at hSw)
        (try (obtain ⟨hs1, hs2, hs3⟩ := hSw))
        go_simp
        (try (with_reducible rfl))
      (try simp only [Act.put, lga, lgz, lgs, lsa, lsz, lss])
      refine wpAnyH_take (i := 11) (v := ?_) rfl (by kernel_rfl) (by kernel_rfl) (by kernel_rfl) (fun _ _ _ h => h) (Or.inl ⟨by rfl, ?_⟩) (by assumption) ?_
      rotate_left
      · intro w2 hSw
        (try dsimp only at hSw)
        (try (obtain ⟨hs1, hs2, hs3⟩ := hSw))
        go_simp
        (try (with_reducible rfl))
      (try simp only [Act.put, lga, lgz, lgs, lsa, lsz, lss])
      refine wpAnyH_take (i := 12) (v := ?_) rfl (by kernel_rfl) (by kernel_rfl) (by kernel_rfl) (fun _ _ _ h => h) (Or.inl ⟨by rfl, ?_⟩) (by assumption) ?_
      rotate_left
      · intro w2 hSw
        (try dsimp only at hSw)
        (try (obtain ⟨hs1, hs2, hs3⟩ := hSw))
        go_simp
        (try (with_reducible rfl))
      (try simp only [Act.put, lga, lgz, lgs, lsa, lsz, lss])
      refine wpAnyH_ready (rs := [13]) (by decide +kernel) (by simp) ?_
      refine AllReadyH.cons rfl (fun K hK => ?_) (AllReadyH.nil)
      (try simp only [lga, lgz, lgs])
      (go_simp)
      refine hK.out _ _ ?_ (fun hHeld => ?_)
      · exact Row.chg RI2 ((Chg.refl [c] w2).setCell (Or.inl (by simp)) _) (by simp; omega)
      clear hK K
      (try simp only [Act.put, lga, lgz, lgs, lsa, lsz, lss])
      refine wpAnyH_done (by kernel_rfl) ?_ _
      go_wp2
      go_ret
      have hgc : g2 ≠ c := by
        rcases HAT.out with h1 | h1
        · exact fun e => HC.out.off (own_mem (by rw [h1, e]))
        · simp at h1; omega
      have hcs : Chg (c :: own (.slice ao l.length cap)) w1 (w2.setCell ⟨c, 2, none⟩ (.slice (some ⟨g2, 0, none⟩) (l.length + 1) cap2)) := (HCC.out.mono (fun x hx => List.mem_cons_of_mem _ hx)).setCell (Or.inl (by simp)) _
      have hcw : Chg (c :: own (.slice ao l.length cap)) w (w2.setCell ⟨c, 2, none⟩ (.slice (some ⟨g2, 0, none⟩) (l.length + 1) cap2)) := (HC2.mono (fun x hx => List.mem_cons_of_mem _ hx)).setCell (Or.inl (by simp)) _
      refine ⟨rfl, .slice (some ⟨g2, 0, none⟩) (l.length + 1) cap2, ⟨⟨fn, m, bs⟩, ca1, cc1, ba1, bc1⟩, rfl, ⟨Row.put RB2 rfl, ?_, ?_, ?_, ?_⟩, hcw, ?_, ?_⟩
      · show World.ownsRow _ _ _ _ _ (l ++ [_]).length _
        rw [List.length_append, clCells_append]
        exact ownsRow_setCell_other HO2.out (by simp [Value.ownBlock]; exact hgc) _
      · intro k hk
        rcases List.mem_append.1 hk with h1 | h1
        · exact ints_chgS (HC.out.bytes k h1) hcw (fun g hg h2 => by
            have h3 := HC.out.apart g (List.mem_flatMap.2 ⟨k, h1, hg⟩)
            rcases List.mem_cons.1 h2 with h4 | h4
            · exact h3.1 h4
            · exact h3.2 h4)
        · rw [List.mem_singleton.1 h1]
          refine ints_chgS HB1.out hcs (fun g hg h2 => ?_)
          have h5 := HO1.out g hg
          rcases List.mem_cons.1 h2 with h4 | h4
          · have := HLC.out; omega
          · have := HOV.out g h4; omega
      · intro b hb
        rw [bys_append] at hb
        rcases List.mem_append.1 hb with h1 | h1
        · have h3 := HC.out.apart b h1
          refine ⟨h3.1, fun h4 => ?_⟩
          have h4 := own_of h4
          simp only [Value.ownBlock, Option.some.injEq] at h4
          subst h4
          rcases HAT.out with h5 | h5
          · exact h3.2 (own_mem h5)
          · have := bys_lt HC.out.bytes HL0.out _ h1; simp at h5; omega
        · have h5 : b ∈ own (.slice ba1 bs.length bc1) := by simpa [bys, Cl.bv] using h1
          have h6 := HO1.out b h5
          refine ⟨by have := HLC.out; omega, fun h4 => ?_⟩
          have h4 := own_of h4
          simp only [Value.ownBlock, Option.some.injEq] at h4
          subst h4
          have h7 := bys_lt (l := [⟨⟨fn, m, bs⟩, ca1, cc1, ba1, bc1⟩]) (w := w1) (fun k hk => by rw [List.mem_singleton.1 hk]; exact HB1.out) (fun k hk => by rw [List.mem_singleton.1 hk]; exact HBL.out) _ h1
          rcases HAT.out with h5 | h5
          · have := HOV.out _ (own_mem h5); omega
          · simp at h5; omega
      · intro h4
        have h4 := own_of h4
        simp only [Value.ownBlock, Option.some.injEq] at h4
        exact hgc h4
      · intro g hg
        simp only [Value.ownBlock, Option.some.injEq] at hg
        subst hg
        rcases HAT.out with h5 | h5
        · exact Or.inl h5
        · exact Or.inr (by simp at h5; omega)
      · intro g hg
        have := HO1.out g (by simpa [bys, Cl.bv] using hg)
        omega
set_option maxRecDepth 8000 in
set_option maxHeartbeats 2000000 in
theorem addL_calls (c : Nat) (v : Value) (l : List Cl) (fn : Int) (m : M6) (ca : Option Addr) (cc : Nat) (ba : Option Addr) (bc : Nat) (bs : List Int) (w : World) (h : Canv w c v l) (hl0 : ∀ k ∈ l, 0 < k.it.bs.length) (hl : l.length < 4096) (hv : Ints .u8 w (.slice ba bs.length bc) bs) (hbl : 0 < bs.length) (hl1 : bs.length ≤ 65535)
    (h0 : 0 ≤ fn) (h1 : fn < 14) (hT : Font.Tab w) (hf : ((lM m).any fun n => !fits n) = false) :
    Calls Tryd.prog 37 #[.pointer (some ⟨c, 0, none⟩), .agg #[.int .i64 4, .slice none 0 0, .int .i64 1, .int .i64 0, .int .i64 0, .int .i64 0, .int .i64 0, .slice ca 0 cc, .int .i64 0, .int .i64 0, .int .i64 0, .int .i64 0, .slice none 0 0, .int .i64 0, .int .i64 fn, .int .i64 m.a, .int .i64 m.b, .int .i64 m.c, .int .i64 m.d, .int .i64 m.x, .int .i64 m.y, .slice ba bs.length bc]] w fun E w' => E = .returned (.int .i64 0) ∧ Laid w c v l ⟨fn, m, bs⟩ w' := by
  have HV := Lib.hid hv
  have HC := Lib.hid h
  have HL0 := Lib.hid hl0
  have HT := Lib.hid hT
  have HF := Lib.hid hf
  clear h hv hl0 hT hf
  go_enter Tryd.func37, Tryd.ntmps37
  go_wp2_with (first
    | (refine wpList_load_Row rfl 86 (.tmp 3) rfl w.heap.size rfl #[.int .i64 4, .slice none 0 0, .int .i64 1, .int .i64 0, .int .i64 0, .int .i64 0, .int .i64 0, .slice ca 0 cc, .int .i64 0, .int .i64 0, .int .i64 0, .int .i64 0, .slice none 0 0, .int .i64 0, .int .i64 fn, .int .i64 m.a, .int .i64 m.b, .int .i64 m.c, .int .i64 m.d, .int .i64 m.x, .int .i64 m.y, .slice ba bs.length bc] _ (by exact ra) Tryd.underlying86 rfl infoIt rfl ?_)
    | (go_at_call 63; ((with_reducible refine (item_calls ca ba cc bs.length bc fn m h0 h1 (Nat.succ_le_of_lt hbl) hl1 _ (HT.out.up (by exact ua))).mono ?_); rw [HF.out]; rintro E w1 ⟨rfl, hu1⟩; have z1 := hu1.size; (try simp at z1); have RI1 : Row w1 w.heap.size #[.int .i64 4, .slice none 0 0, .int .i64 1, .int .i64 0, .int .i64 0, .int .i64 0, .int .i64 0, .slice ca 0 cc, .int .i64 0, .int .i64 0, .int .i64 0, .int .i64 0, .slice none 0 0, .int .i64 0, .int .i64 fn, .int .i64 m.a, .int .i64 m.b, .int .i64 m.c, .int .i64 m.d, .int .i64 m.x, .int .i64 m.y, .slice ba bs.length bc] := Row.up (show Row _ w.heap.size #[.int .i64 4, .slice none 0 0, .int .i64 1, .int .i64 0, .int .i64 0, .int .i64 0, .int .i64 0, .slice ca 0 cc, .int .i64 0, .int .i64 0, .int .i64 0, .int .i64 0, .slice none 0 0, .int .i64 0, .int .i64 fn, .int .i64 m.a, .int .i64 m.b, .int .i64 m.c, .int .i64 m.d, .int .i64 m.x, .int .i64 m.y, .slice ba bs.length bc] by exact ra) hu1))
    | (go_at_call 64; ((with_reducible refine (lay_calls c v l fn m ca cc ba bc bs _ (HC.out.up (by exact ua)) HL0.out hl (HV.out.up (by exact ua)) hbl (by omega)).mono ?_); rintro E w2 ⟨rfl, hL2⟩; have HL2 := Lib.hid (Laid.of_up (w := w) (by exact ua) hL2); clear hL2)))
  go_ret
  exact ⟨rfl, HL2.out⟩

end Go.Proofs.YtjdbefpfjhdmoaaDoor.Sh
end

section
namespace Go.Proofs.YtjdbefpfjhdmoaaDoor.Sh
open Go.ChangeShapes Go.WideShapes Go.ChangeAt Go.RowKit
open Go.Proofs.YtjdbefpfjhdmoaaDoor.Gs
open Go.Proofs.YtjdbefpfjhdmoaaDoor.FixM (fits add sum sumF)
open Go.Proofs.YtjdbefpfjhdmoaaDoor.MatM (M6 concat delta apply two pt)
open Go.Proofs.YtjdbefpfjhdmoaaDoor.PathM
set_option linter.unusedVariables false
set_option linter.unusedSimpArgs false

theorem sumF_fits : ∀ (zs : List Int) (t : Int), fits t = true → fits (sumF t zs).1 = true
  | [], t, h => h
  | z :: zs, t, h => by
    unfold sumF
    by_cases h1 : (add t z).2 = 0
    · rw [if_pos h1]; exact sumF_fits zs _ (MatM.add_fits t z)
    · rw [if_neg h1]; exact (by decide : fits 0 = true)
theorem two_fits (e a x c y : Int) (more : List Int) : fits (two e a x c y more).1 = true := sumF_fits _ 0 (by decide)
theorem pt_fits (x y e : Int) (hx : fits x = true) (hy : fits y = true) : fits (pt x y e).1.1 = true ∧ fits (pt x y e).1.2 = true := by
  unfold pt
  split
  · exact ⟨hx, hy⟩
  · exact ⟨(by decide : fits 0 = true), (by decide : fits 0 = true)⟩
theorem delta_fits (a b c d x y : Int) : fits (delta a b c d x y).1.1 = true ∧ fits (delta a b c d x y).1.2 = true := pt_fits _ _ _ (two_fits ..) (two_fits ..)
theorem concat_fits (A B : M6) : fits (concat A B).1.a = true ∧ fits (concat A B).1.b = true ∧ fits (concat A B).1.c = true ∧ fits (concat A B).1.d = true := by
  have z : fits 0 = true := by decide
  unfold concat
  dsimp only
  split
  · split
    · split
      · exact ⟨(delta_fits ..).1, (delta_fits ..).2, (delta_fits ..).1, (delta_fits ..).2⟩
      · exact ⟨z, z, z, z⟩
    · exact ⟨z, z, z, z⟩
  · exact ⟨z, z, z, z⟩
theorem moved_fits (c : M6) (ax ay bx bz : Int) : fitsP (movedR c ax ay bx bz).1 = true := by
  have z : fitsP (0, 0) = true := by decide
  unfold movedR
  split
  · split
    · split
      · simp [fitsP, MatM.add_fits]
      · exact z
    · exact z
  · exact z
/-- a path that is a place -/
def T1 (n x y : Int) : St := ⟨n, [⟨1, (x, y), Z, Z⟩], (x, y), (x, y)⟩
theorem cur_T1 (n x y : Int) : Path.St.cur (T1 n x y) = ((x, y), 0) := rfl
theorem last_T1 (n x y : Int) : lastK (T1 n x y).l = 1 := rfl
theorem move_T1 (n x y a b : Int) (h : fitsP (a, b) = true) : (T1 n x y).move (a, b) = (T1 n a b, 0) := by
  unfold St.move
  rw [if_pos h, if_pos (last_T1 n x y)]
  rfl
theorem move_T1m (n x y : Int) (c : M6) (ax ay bx bz : Int) : (T1 n x y).move ((movedR c ax ay bx bz).1.1, (movedR c ax ay bx bz).1.2) = (T1 n (movedR c ax ay bx bz).1.1 (movedR c ax ay bx bz).1.2, 0) := move_T1 _ _ _ _ _ (moved_fits c ax ay bx bz)
/-- the letters' matrix -/
def matR (C FM : M6) (x y : Int) : M6 := ⟨(concat FM C).1.a, (concat FM C).1.b, (concat FM C).1.c, (concat FM C).1.d, x, y⟩
theorem mat_fits (C FM : M6) (x y : Int) (hx : fits x = true) (hy : fits y = true) : ((lM (matR C FM x y)).any fun n => !fits n) = false := by
  obtain ⟨h1, h2, h3, h4⟩ := concat_fits FM C
  simp [lM, matR, h1, h2, h3, h4, hx, hy]
/-- what Show does at a place: the error, the place, what is shown -/
def letR (C : M6) (F : Int) (FM : M6) (dk : Bool) (x y : Int) (bs : List Int) : Int × (Int × Int) × List It :=
  if F < 0 then (7, (x, y), [])
  else if (farR F FM bs).2 ≠ 0 then ((farR F FM bs).2, (x, y), [])
  else if (movedR C x y (farR F FM bs).1.1 (farR F FM bs).1.2).2 ≠ 0 then ((movedR C x y (farR F FM bs).1.1 (farR F FM bs).1.2).2, (x, y), [])
  else if 0 < bs.length ∧ dk = false then
    if (concat FM C).2 ≠ 0 then ((concat FM C).2, (x, y), [])
    else (0, (movedR C x y (farR F FM bs).1.1 (farR F FM bs).1.2).1, [⟨F, matR C FM x y, bs⟩])
  else (0, (movedR C x y (farR F FM bs).1.1 (farR F FM bs).1.2).1, [])
theorem let_fits {C : M6} {F : Int} {FM : M6} {dk : Bool} {x y : Int} {bs : List Int} (h : fitsP (x, y) = true) : fitsP (letR C F FM dk x y bs).2.1 = true := by
  unfold letR
  split
  · exact h
  · split
    · exact h
    · split
      · exact h
      · split
        · split
          · exact h
          · exact moved_fits ..
        · exact moved_fits ..

/-- states, their path, a canvas -/
structure Prg (w : World) (g p c : Nat) (C : M6) (F : Int) (FM : M6) (dk : Bool) (n : Int) (pv v : Value) (T : St) (l : List Cl) : Prop where
  rg : Row w g (gsC C 65536 (.slice none 0 0) 0 F FM dk p 2 n)
  pa : Path.PathIs w p pv T
  cv : Canv w c v l
  lb : ∀ k ∈ l, 0 < k.it.bs.length
  gp : g ≠ p
  gc : g ≠ c
  pc : p ≠ c
  pg : ∀ b ∈ own pv, b ≠ g ∧ b ≠ c ∧ b ∉ own v
  vg : g ∉ own v ∧ p ∉ own v
  bg : ∀ b ∈ bys l, b ≠ g ∧ b ≠ p ∧ b ∉ own pv
section
variable {w w1 : World} {g p c : Nat} {C : M6} {F : Int} {FM : M6} {dk : Bool} {n : Int} {pv v : Value} {T : St} {l : List Cl}
theorem pv_lt (h : Path.PathIs w p pv T) : ∀ b ∈ own pv, b < w.heap.size := fun b hb => by
  rcases h.segs.form with ⟨rfl, _⟩ | ⟨g', cap, rfl, _, _, h1⟩
  · simp [own, Value.ownBlock] at hb
  · simp [own, Value.ownBlock] at hb; omega
theorem Prg.chg (h : Prg w g p c C F FM dk n pv v T l) {S : List Nat} (hc : Chg S w w1) (h1 : g ∉ S) (h2 : p ∉ S) (h3 : c ∉ S) (h4 : ∀ b ∈ own pv, b ∉ S) (h5 : ∀ b ∈ own v, b ∉ S) (h6 : ∀ b ∈ bys l, b ∉ S) : Prg w1 g p c C F FM dk n pv v T l :=
  ⟨h.rg.chg hc h1, h.pa.chg hc h2 (fun k hk => h4 k (own_mem hk)), h.cv.chg hc h3 h5 h6, h.lb, h.gp, h.gc, h.pc, h.pg, h.vg, h.bg⟩
theorem Prg.up (h : Prg w g p c C F FM dk n pv v T l) (hc : Up w w1) : Prg w1 g p c C F FM dk n pv v T l := h.chg (S := []) (Chg.of_up hc) (by simp) (by simp) (by simp) (by simp) (by simp) (by simp)
/-- the path is moved -/
theorem Prg.move (h : Prg w g p c C F FM dk n pv v T l) {T' : St} (hl : Path.Left w p pv T' w1) : ∃ pv', Prg w1 g p c C F FM dk n pv' v T' l ∧ Chg (p :: own pv) w w1 ∧ Own w pv pv' := by
  obtain ⟨pv', hp, hc, ho⟩ := hl
  have hc : Chg (p :: own pv) w w1 := hc
  have hn : ∀ b, b ∈ own pv' → b ∈ own pv ∨ w.heap.size ≤ b := fun b hb => (ho b (own_of hb)).imp own_mem id
  have l1 := h.rg.lt
  have l2 := h.cv.row.lt
  have l3 := own_lt h.cv.its
  have l4 := bys_lt h.cv.bytes h.lb
  refine ⟨pv', ⟨h.rg.chg hc ?_, hp, h.cv.chg hc ?_ ?_ ?_, h.lb, h.gp, h.gc, h.pc, ?_, h.vg, ?_⟩, hc, ho⟩
  · exact fun hb => (List.mem_cons.1 hb).elim h.gp (fun h1 => (h.pg g h1).1 rfl)
  · exact fun hb => (List.mem_cons.1 hb).elim (fun e => h.pc e.symm) (fun h1 => (h.pg c h1).2.1 rfl)
  · exact fun b hb h1 => (List.mem_cons.1 h1).elim (fun e => h.vg.2 (e ▸ hb)) (fun h2 => (h.pg b h2).2.2 hb)
  · exact fun b hb h1 => (List.mem_cons.1 h1).elim (h.bg b hb).2.1 (h.bg b hb).2.2
  · intro b hb
    rcases hn b hb with h1 | h1
    · exact h.pg b h1
    · exact ⟨by omega, by omega, fun h2 => by have := l3 b h2; omega⟩
  · intro b hb
    refine ⟨(h.bg b hb).1, (h.bg b hb).2.1, fun h2 => ?_⟩
    rcases hn b h2 with h1 | h1
    · exact (h.bg b hb).2.2 h1
    · have := l4 b hb; omega
/-- an item is laid -/
theorem Prg.lay (h : Prg w g p c C F FM dk n pv v T l) {it : It} (h0 : 0 < it.bs.length) (hl : Laid w c v l it w1) : ∃ v' k, k.it = it ∧ Prg w1 g p c C F FM dk n pv v' T (l ++ [k]) ∧ Chg (c :: own v) w w1 ∧ Own w v v' ∧ ∀ b ∈ bys [k], w.heap.size ≤ b := by
  obtain ⟨v', k, hk, hcv, hc, ho, hb⟩ := hl
  have hn : ∀ b, b ∈ own v' → b ∈ own v ∨ w.heap.size ≤ b := fun b hb => (ho b (own_of hb)).imp own_mem id
  have l1 := h.rg.lt
  have l2 := h.pa.row.lt
  have l3 := pv_lt h.pa
  refine ⟨v', k, hk, ⟨h.rg.chg hc ?_, h.pa.chg hc ?_ ?_, hcv, ?_, h.gp, h.gc, h.pc, ?_, ⟨?_, ?_⟩, ?_⟩, hc, ho, hb⟩
  · exact fun hb => (List.mem_cons.1 hb).elim h.gc h.vg.1
  · exact fun hb => (List.mem_cons.1 hb).elim h.pc h.vg.2
  · exact fun b hb h1 => (List.mem_cons.1 h1).elim (h.pg b (own_mem hb)).2.1 (h.pg b (own_mem hb)).2.2
  · intro k2 hk2
    rcases List.mem_append.1 hk2 with h1 | h1
    · exact h.lb k2 h1
    · rw [List.mem_singleton.1 h1, hk]; exact h0
  · intro b hb
    refine ⟨(h.pg b hb).1, (h.pg b hb).2.1, fun h2 => ?_⟩
    rcases hn b h2 with h1 | h1
    · exact (h.pg b hb).2.2 h1
    · have := l3 b hb; omega
  · exact fun h2 => (hn g h2).elim h.vg.1 (fun h3 => by omega)
  · exact fun h2 => (hn p h2).elim h.vg.2 (fun h3 => by omega)
  · intro b h1
    rw [bys_append] at h1
    rcases List.mem_append.1 h1 with h1 | h1
    · exact h.bg b h1
    · have := hb b h1
      exact ⟨by omega, by omega, fun h2 => by have := l3 b h2; omega⟩
/-- what Show leaves -/
def Shown (w : World) (g p c : Nat) (C : M6) (F : Int) (FM : M6) (dk : Bool) (n : Int) (pv v : Value) (l : List Cl) (T' : St) (its : List It) (w' : World) : Prop :=
  ∃ pv' v' l', Prg w' g p c C F FM dk n pv' v' T' l' ∧ l'.map (·.it) = l.map (·.it) ++ its ∧ Chg (p :: c :: (own pv ++ own v)) w w' ∧ (∀ b ∈ own pv' ++ own v', b ∈ own pv ++ own v ∨ w.heap.size ≤ b) ∧ (∀ b ∈ bys l', b ∈ bys l ∨ w.heap.size ≤ b)
theorem Shown.of_up {w0 : World} {T' : St} {its : List It} (hu : Up w0 w) (h : Shown w g p c C F FM dk n pv v l T' its w1) : Shown w0 g p c C F FM dk n pv v l T' its w1 := by
  obtain ⟨pv', v', l', h1, h2, h3, h4, h5⟩ := h
  exact ⟨pv', v', l', h1, h2, ⟨h3.os.trans hu.os, h3.tape.trans hu.tape, h3.output.trans hu.output, Nat.le_trans hu.size h3.size, fun k hk hn => (h3.block k (Nat.lt_of_lt_of_le hk hu.size) hn).trans (hu.block k hk)⟩, fun b hb => (h4 b hb).imp id (Nat.le_trans hu.size), fun b hb => (h5 b hb).imp id (Nat.le_trans hu.size)⟩
theorem Shown.same (h : Prg w g p c C F FM dk n pv v T l) (hu : Up w w1) : Shown w g p c C F FM dk n pv v l T [] w1 :=
  ⟨pv, v, l, h.up hu, by simp, (Chg.of_up hu), fun b hb => Or.inl hb, fun b hb => Or.inl hb⟩
theorem Shown.moved (h : Prg w g p c C F FM dk n pv v T l) {T' : St} (hl : Path.Left w p pv T' w1) : Shown w g p c C F FM dk n pv v l T' [] w1 := by
  obtain ⟨pv', h1, h2, h3⟩ := h.move hl
  refine ⟨pv', v, l, h1, by simp, h2.mono (fun x hx => ?_), fun b hb => ?_, fun b hb => Or.inl hb⟩
  · rcases List.mem_cons.1 hx with rfl | hx
    · simp
    · simp [hx]
  · rcases List.mem_append.1 hb with hb | hb
    · exact (h3 b (own_of hb)).imp (fun h => by simp [own_mem h]) id
    · exact Or.inl (by simp [hb])
theorem Shown.both {w2 : World} (h : Prg w g p c C F FM dk n pv v T l) {it : It} (h0 : 0 < it.bs.length) (hl : Laid w c v l it w1) {T' : St} (hm : ∀ pv2 v2 l2, Prg w1 g p c C F FM dk n pv2 v2 T l2 → pv2 = pv → Path.Left w1 p pv T' w2) : Shown w g p c C F FM dk n pv v l T' [it] w2 := by
  obtain ⟨v', k, hk, h1, h2, h3, h4⟩ := h.lay h0 hl
  obtain ⟨pv', h5, h6, h7⟩ := h1.move (hm pv v' _ h1 rfl)
  refine ⟨pv', v', l ++ [k], h5, by simp [hk], ?_, fun b hb => ?_, fun b hb => ?_⟩
  · refine (h2.mono (fun x hx => ?_)).call (h6.mono (fun x hx => ?_)) (fun k hk => Or.inl hk)
    · rcases List.mem_cons.1 hx with rfl | hx
      · simp
      · simp [hx]
    · rcases List.mem_cons.1 hx with rfl | hx
      · simp
      · simp [hx]
  · rcases List.mem_append.1 hb with hb | hb
    · rcases h7 b (own_of hb) with h | h
      · exact Or.inl (by simp [own_mem h])
      · exact Or.inr (Nat.le_trans h2.size h)
    · exact (h3 b (own_of hb)).imp (fun h => by simp [own_mem h]) id
  · rw [bys_append] at hb
    rcases List.mem_append.1 hb with h | h
    · exact Or.inl h
    · exact Or.inr (h4 b h)
end

end Go.Proofs.YtjdbefpfjhdmoaaDoor.Sh
end

section
namespace Go.Proofs.YtjdbefpfjhdmoaaDoor.Sh
open List renaming getElem_toArray → lga, getElem_cons_zero → lgz, getElem_cons_succ → lgs, setIfInBounds_toArray → lsa, set_cons_zero → lsz, set_cons_succ → lss
open Go.Proofs.YtjdbefpfjhdmoaaDoor.ZGB
open Go.ChangeShapes Go.WideShapes Go.ChangeAt Go.RowKit
open Go.Proofs.YtjdbefpfjhdmoaaDoor.Gs
open Go.Proofs.YtjdbefpfjhdmoaaDoor.FixM (fits)
open Go.Proofs.YtjdbefpfjhdmoaaDoor.MatM (M6 concat)
open Go.Proofs.YtjdbefpfjhdmoaaDoor.PathM
set_option linter.unusedVariables false
set_option linter.unusedSimpArgs false


set_option maxRecDepth 8000 in
set_option maxHeartbeats 4000000 in
theorem show_stop (g p c : Nat) (C : M6) (F : Int) (FM : M6) (dk : Bool) (n : Int) (pv v : Value) (T : St) (l : List Cl) (x y : Int) (ba : Option Addr) (bc N : Nat) (bs : List Int) (w : World) (h : Prg w g p c C F FM dk n pv v T l)
    (hN : bs.length = N) (hv : Ints .u8 w (.slice ba N bc) bs) (hl : N ≤ 65535) (e : Int) (hR : placeR F T = ((x, y), e)) (he : e ≠ 0) :
    Calls Tryd.prog 11 #[.pointer (some ⟨c, 0, none⟩), .pointer (some ⟨g, 0, none⟩), .slice ba N bc] w fun E w' => E = .returned (.int .i64 e) ∧ Up w w' := by
  have HH := Lib.hid h
  have HG := Lib.hid h.rg
  have HP := Lib.hid h.pa
  have HV := Lib.hid hv
  have HN := Lib.hid hN
  have HLP := Lib.hid h.pa.row.lt
  have HLV := Lib.hid (pv_lt h.pa)
  have HLC := Lib.hid h.cv.row.lt
  have HLO := Lib.hid (own_lt h.cv.its)
  clear h hv hN
  have HR := Lib.hid hR
  clear hR
  have t0 : (e == 0) = false := by simpa using he
  clear he
  go_enter Tryd.func11, Tryd.ntmps11
  go_wp2_with (first
    | (go_at_call 33; ((with_reducible refine (ready_calls g C 65536 0 F FM dk p 2 n pv T _ (HG.out.up (by exact ua)) (HP.out.up (by exact ua))).mono ?_); rw [HR.out]; rintro E w1 ⟨⟨gc, hg1, rfl⟩, hu1⟩; have z1 := hu1.size; (try simp at z1); have HU1 := Lib.hid (show Up w w1 by exact ua)))
    | ((refine wpList_store_Row rfl 74 (.tmp 7) _ rfl w1.heap.size #[.int .i64 C.a, .int .i64 C.b, .int .i64 C.c, .int .i64 C.d, .int .i64 C.x, .int .i64 C.y, .int .i64 1, .int .i64 0, .int .i64 0, .int .i64 0, .int .i64 0, .int .i64 65536, .int .i64 0, .int .i64 0, .int .i64 655360, .slice none 0 0, .int .i64 0, .int .i64 F, .int .i64 FM.a, .int .i64 FM.b, .int .i64 FM.c, .int .i64 FM.d, .int .i64 FM.x, .int .i64 FM.y, .slice (some ⟨gc, 0, none⟩) 0 0, .bool dk] rfl rfl #[.int .i64 0, .int .i64 0, .int .i64 0, .int .i64 0, .int .i64 0, .int .i64 0, .int .i64 0, .int .i64 0, .int .i64 0, .int .i64 0, .int .i64 0, .int .i64 0, .int .i64 0, .int .i64 0, .int .i64 0, .slice none 0 0, .int .i64 0, .int .i64 0, .int .i64 0, .int .i64 0, .int .i64 0, .int .i64 0, .int .i64 0, .int .i64 0, .slice none 0 0, .bool false] (by exact ra) infoSt rfl rfl (by simp [Value.oneCell']) ?_); intro w2 hr2 hc2; have z2 := hc2.size; (try simp at z2); have R7_w2 := hr2; have RP2 : Row w2 (w1.heap.size + 1) #[.int .i64 0, .int .i64 0] := (by exact ra); have lp2 := RP2.lt; have p2_0 : w2.cell? ⟨w1.heap.size + 1, 0, none⟩ = some (.int .i64 0) := RP2.cell 0 rfl; have pf2_0 := RP2.free 0; have p2_1 : w2.cell? ⟨w1.heap.size + 1, 1, none⟩ = some (.int .i64 0) := RP2.cell 1 rfl; have pf2_1 := RP2.free 1))
  go_ret
  exact ⟨rfl, (show Chg [] w _ by (repeat' (first | (with_reducible first | exact Chg.refl _ _ | assumption | refine Chg.alloc ?_ _ | refine Chg.drew ?_ | refine Chg.drewN ?_ _ | refine Chg.setCell ?_ ?_ _ | refine Chg.upc ?_ (by assumption) | refine Chg.call ?_ (by assumption) ?_) | (refine Or.inl ?_; (simp; done)) | (simp; done) | (simp; omega) | omega))).up⟩

set_option maxRecDepth 8000 in
set_option maxHeartbeats 4000000 in
theorem show_far (g p c : Nat) (C : M6) (F : Int) (FM : M6) (dk : Bool) (n : Int) (pv v : Value) (T : St) (l : List Cl) (x y : Int) (ba : Option Addr) (bc N : Nat) (bs : List Int) (w : World) (h : Prg w g p c C F FM dk n pv v T l)
    (hN : bs.length = N) (hv : Ints .u8 w (.slice ba N bc) bs) (hl : N ≤ 65535) (hR : placeR F T = ((x, y), 0)) (bx bz e : Int) (hB : farR F FM bs = ((bx, bz), e)) (he : e ≠ 0) :
    Calls Tryd.prog 11 #[.pointer (some ⟨c, 0, none⟩), .pointer (some ⟨g, 0, none⟩), .slice ba N bc] w fun E w' => E = .returned (.int .i64 e) ∧ Up w w' := by
  have HH := Lib.hid h
  have HG := Lib.hid h.rg
  have HP := Lib.hid h.pa
  have HV := Lib.hid hv
  have HN := Lib.hid hN
  have HLP := Lib.hid h.pa.row.lt
  have HLV := Lib.hid (pv_lt h.pa)
  have HLC := Lib.hid h.cv.row.lt
  have HLO := Lib.hid (own_lt h.cv.its)
  clear h hv hN
  have HR := Lib.hid hR
  clear hR
  have HB := Lib.hid hB
  clear hB
  have tl : decide ((65535 : Int) < (N : Int)) = false := decide_eq_false (by omega)
  have t0 : (e == 0) = false := by simpa using he
  clear he
  go_enter Tryd.func11, Tryd.ntmps11
  go_wp2_with (first
    | (go_at_call 33; ((with_reducible refine (ready_calls g C 65536 0 F FM dk p 2 n pv T _ (HG.out.up (by exact ua)) (HP.out.up (by exact ua))).mono ?_); rw [HR.out]; rintro E w1 ⟨⟨gc, hg1, rfl⟩, hu1⟩; have z1 := hu1.size; (try simp at z1); have HU1 := Lib.hid (show Up w w1 by exact ua)))
    | ((refine wpList_store_Row rfl 74 (.tmp 7) _ rfl w1.heap.size #[.int .i64 C.a, .int .i64 C.b, .int .i64 C.c, .int .i64 C.d, .int .i64 C.x, .int .i64 C.y, .int .i64 1, .int .i64 0, .int .i64 0, .int .i64 0, .int .i64 0, .int .i64 65536, .int .i64 0, .int .i64 0, .int .i64 655360, .slice none 0 0, .int .i64 0, .int .i64 F, .int .i64 FM.a, .int .i64 FM.b, .int .i64 FM.c, .int .i64 FM.d, .int .i64 FM.x, .int .i64 FM.y, .slice (some ⟨gc, 0, none⟩) 0 0, .bool dk] rfl rfl #[.int .i64 0, .int .i64 0, .int .i64 0, .int .i64 0, .int .i64 0, .int .i64 0, .int .i64 0, .int .i64 0, .int .i64 0, .int .i64 0, .int .i64 0, .int .i64 0, .int .i64 0, .int .i64 0, .int .i64 0, .slice none 0 0, .int .i64 0, .int .i64 0, .int .i64 0, .int .i64 0, .int .i64 0, .int .i64 0, .int .i64 0, .int .i64 0, .slice none 0 0, .bool false] (by exact ra) infoSt rfl rfl (by simp [Value.oneCell']) ?_); intro w2 hr2 hc2; have z2 := hc2.size; (try simp at z2); have R7_w2 := hr2; have RP2 : Row w2 (w1.heap.size + 1) #[.int .i64 0, .int .i64 0] := (by exact ra); have lp2 := RP2.lt; have p2_0 : w2.cell? ⟨w1.heap.size + 1, 0, none⟩ = some (.int .i64 0) := RP2.cell 0 rfl; have pf2_0 := RP2.free 0; have p2_1 : w2.cell? ⟨w1.heap.size + 1, 1, none⟩ = some (.int .i64 0) := RP2.cell 1 rfl; have pf2_1 := RP2.free 1)
    | (refine wpList_load_Row rfl 74 (.tmp 7) rfl w1.heap.size rfl #[.int .i64 C.a, .int .i64 C.b, .int .i64 C.c, .int .i64 C.d, .int .i64 C.x, .int .i64 C.y, .int .i64 1, .int .i64 0, .int .i64 0, .int .i64 0, .int .i64 0, .int .i64 65536, .int .i64 0, .int .i64 0, .int .i64 655360, .slice none 0 0, .int .i64 0, .int .i64 F, .int .i64 FM.a, .int .i64 FM.b, .int .i64 FM.c, .int .i64 FM.d, .int .i64 FM.x, .int .i64 FM.y, .slice (some ⟨gc, 0, none⟩) 0 0, .bool dk] _ (by first | with_reducible assumption | exact ra) Tryd.underlying74 rfl infoSt rfl ?_)
    | (go_at_call 28; ((with_reducible refine (far_calls C 65536 0 F FM _ dk (.slice ba N bc) bs _ (HV.out.up ((show Chg [] w _ from (by (repeat' (first | (with_reducible first | exact Chg.refl _ _ | assumption | refine Chg.alloc ?_ _ | refine Chg.drew ?_ | refine Chg.drewN ?_ _ | refine Chg.setCell ?_ ?_ _ | refine Chg.upc ?_ (by assumption) | refine Chg.call ?_ (by assumption) ?_) | (refine Or.inl ?_; (simp; done)) | (simp; done) | (simp; omega) | omega)))).up)) (by have := HN.out; omega)).mono ?_); rw [HB.out]; rintro E w3 ⟨rfl, hu3⟩; have z3 := hu3.size; (try simp at z3); have R7_w3 : Row w3 w1.heap.size #[.int .i64 C.a, .int .i64 C.b, .int .i64 C.c, .int .i64 C.d, .int .i64 C.x, .int .i64 C.y, .int .i64 1, .int .i64 0, .int .i64 0, .int .i64 0, .int .i64 0, .int .i64 65536, .int .i64 0, .int .i64 0, .int .i64 655360, .slice none 0 0, .int .i64 0, .int .i64 F, .int .i64 FM.a, .int .i64 FM.b, .int .i64 FM.c, .int .i64 FM.d, .int .i64 FM.x, .int .i64 FM.y, .slice (some ⟨gc, 0, none⟩) 0 0, .bool dk] := Row.up (show Row _ w1.heap.size #[.int .i64 C.a, .int .i64 C.b, .int .i64 C.c, .int .i64 C.d, .int .i64 C.x, .int .i64 C.y, .int .i64 1, .int .i64 0, .int .i64 0, .int .i64 0, .int .i64 0, .int .i64 65536, .int .i64 0, .int .i64 0, .int .i64 655360, .slice none 0 0, .int .i64 0, .int .i64 F, .int .i64 FM.a, .int .i64 FM.b, .int .i64 FM.c, .int .i64 FM.d, .int .i64 FM.x, .int .i64 FM.y, .slice (some ⟨gc, 0, none⟩) 0 0, .bool dk] from (by exact ra)) hu3; have l7_w3 := R7_w3.lt; have c7_w3_25 : w3.cell? ⟨w1.heap.size, 25, none⟩ = some (.bool dk) := R7_w3.cell 25 rfl; have f7_w3_25 := R7_w3.free 25; have c7_w3_17 : w3.cell? ⟨w1.heap.size, 17, none⟩ = some (.int .i64 F) := R7_w3.cell 17 rfl; have f7_w3_17 := R7_w3.free 17; have R8_w3 : Row w3 (w1.heap.size + 1) #[.int .i64 x, .int .i64 y] := Row.up (show Row _ (w1.heap.size + 1) #[.int .i64 x, .int .i64 y] from (by exact ro)) hu3; have l8_w3 := R8_w3.lt; have c8_w3_0 : w3.cell? ⟨(w1.heap.size + 1), 0, none⟩ = some (.int .i64 x) := R8_w3.cell 0 rfl; have f8_w3_0 := R8_w3.free 0; have c8_w3_1 : w3.cell? ⟨(w1.heap.size + 1), 1, none⟩ = some (.int .i64 y) := R8_w3.cell 1 rfl; have f8_w3_1 := R8_w3.free 1; skip)))
  go_ret
  exact ⟨rfl, (show Chg [] w _ by (repeat' (first | (with_reducible first | exact Chg.refl _ _ | assumption | refine Chg.alloc ?_ _ | refine Chg.drew ?_ | refine Chg.drewN ?_ _ | refine Chg.setCell ?_ ?_ _ | refine Chg.upc ?_ (by assumption) | refine Chg.call ?_ (by assumption) ?_) | (refine Or.inl ?_; (simp; done)) | (simp; done) | (simp; omega) | omega))).up⟩

set_option maxRecDepth 8000 in
set_option maxHeartbeats 4000000 in
theorem show_mov (g p c : Nat) (C : M6) (F : Int) (FM : M6) (dk : Bool) (n : Int) (pv v : Value) (T : St) (l : List Cl) (x y : Int) (ba : Option Addr) (bc N : Nat) (bs : List Int) (w : World) (h : Prg w g p c C F FM dk n pv v T l)
    (hN : bs.length = N) (hv : Ints .u8 w (.slice ba N bc) bs) (hl : N ≤ 65535) (hR : placeR F T = ((x, y), 0)) (bx bz tx tz : Int) (e : Int) (hB : farR F FM bs = ((bx, bz), 0)) (hM : movedR C x y bx bz = ((tx, tz), e)) (he : e ≠ 0) :
    Calls Tryd.prog 11 #[.pointer (some ⟨c, 0, none⟩), .pointer (some ⟨g, 0, none⟩), .slice ba N bc] w fun E w' => E = .returned (.int .i64 e) ∧ Up w w' := by
  have HH := Lib.hid h
  have HG := Lib.hid h.rg
  have HP := Lib.hid h.pa
  have HV := Lib.hid hv
  have HN := Lib.hid hN
  have HLP := Lib.hid h.pa.row.lt
  have HLV := Lib.hid (pv_lt h.pa)
  have HLC := Lib.hid h.cv.row.lt
  have HLO := Lib.hid (own_lt h.cv.its)
  clear h hv hN
  have HR := Lib.hid hR
  clear hR
  have HB := Lib.hid hB
  clear hB
  have HM := Lib.hid hM
  clear hM
  have tl : decide ((65535 : Int) < (N : Int)) = false := decide_eq_false (by omega)
  have t0 : (e == 0) = false := by simpa using he
  clear he
  go_enter Tryd.func11, Tryd.ntmps11
  go_wp2_with (first
    | (go_at_call 33; ((with_reducible refine (ready_calls g C 65536 0 F FM dk p 2 n pv T _ (HG.out.up (by exact ua)) (HP.out.up (by exact ua))).mono ?_); rw [HR.out]; rintro E w1 ⟨⟨gc, hg1, rfl⟩, hu1⟩; have z1 := hu1.size; (try simp at z1); have HU1 := Lib.hid (show Up w w1 by exact ua)))
    | ((refine wpList_store_Row rfl 74 (.tmp 7) _ rfl w1.heap.size #[.int .i64 C.a, .int .i64 C.b, .int .i64 C.c, .int .i64 C.d, .int .i64 C.x, .int .i64 C.y, .int .i64 1, .int .i64 0, .int .i64 0, .int .i64 0, .int .i64 0, .int .i64 65536, .int .i64 0, .int .i64 0, .int .i64 655360, .slice none 0 0, .int .i64 0, .int .i64 F, .int .i64 FM.a, .int .i64 FM.b, .int .i64 FM.c, .int .i64 FM.d, .int .i64 FM.x, .int .i64 FM.y, .slice (some ⟨gc, 0, none⟩) 0 0, .bool dk] rfl rfl #[.int .i64 0, .int .i64 0, .int .i64 0, .int .i64 0, .int .i64 0, .int .i64 0, .int .i64 0, .int .i64 0, .int .i64 0, .int .i64 0, .int .i64 0, .int .i64 0, .int .i64 0, .int .i64 0, .int .i64 0, .slice none 0 0, .int .i64 0, .int .i64 0, .int .i64 0, .int .i64 0, .int .i64 0, .int .i64 0, .int .i64 0, .int .i64 0, .slice none 0 0, .bool false] (by exact ra) infoSt rfl rfl (by simp [Value.oneCell']) ?_); intro w2 hr2 hc2; have z2 := hc2.size; (try simp at z2); have R7_w2 := hr2; have RP2 : Row w2 (w1.heap.size + 1) #[.int .i64 0, .int .i64 0] := (by exact ra); have lp2 := RP2.lt; have p2_0 : w2.cell? ⟨w1.heap.size + 1, 0, none⟩ = some (.int .i64 0) := RP2.cell 0 rfl; have pf2_0 := RP2.free 0; have p2_1 : w2.cell? ⟨w1.heap.size + 1, 1, none⟩ = some (.int .i64 0) := RP2.cell 1 rfl; have pf2_1 := RP2.free 1)
    | (refine wpList_load_Row rfl 74 (.tmp 7) rfl w1.heap.size rfl #[.int .i64 C.a, .int .i64 C.b, .int .i64 C.c, .int .i64 C.d, .int .i64 C.x, .int .i64 C.y, .int .i64 1, .int .i64 0, .int .i64 0, .int .i64 0, .int .i64 0, .int .i64 65536, .int .i64 0, .int .i64 0, .int .i64 655360, .slice none 0 0, .int .i64 0, .int .i64 F, .int .i64 FM.a, .int .i64 FM.b, .int .i64 FM.c, .int .i64 FM.d, .int .i64 FM.x, .int .i64 FM.y, .slice (some ⟨gc, 0, none⟩) 0 0, .bool dk] _ (by first | with_reducible assumption | exact ra) Tryd.underlying74 rfl infoSt rfl ?_)
    | (go_at_call 28; ((with_reducible refine (far_calls C 65536 0 F FM _ dk (.slice ba N bc) bs _ (HV.out.up ((show Chg [] w _ from (by (repeat' (first | (with_reducible first | exact Chg.refl _ _ | assumption | refine Chg.alloc ?_ _ | refine Chg.drew ?_ | refine Chg.drewN ?_ _ | refine Chg.setCell ?_ ?_ _ | refine Chg.upc ?_ (by assumption) | refine Chg.call ?_ (by assumption) ?_) | (refine Or.inl ?_; (simp; done)) | (simp; done) | (simp; omega) | omega)))).up)) (by have := HN.out; omega)).mono ?_); rw [HB.out]; rintro E w3 ⟨rfl, hu3⟩; have z3 := hu3.size; (try simp at z3); have R7_w3 : Row w3 w1.heap.size #[.int .i64 C.a, .int .i64 C.b, .int .i64 C.c, .int .i64 C.d, .int .i64 C.x, .int .i64 C.y, .int .i64 1, .int .i64 0, .int .i64 0, .int .i64 0, .int .i64 0, .int .i64 65536, .int .i64 0, .int .i64 0, .int .i64 655360, .slice none 0 0, .int .i64 0, .int .i64 F, .int .i64 FM.a, .int .i64 FM.b, .int .i64 FM.c, .int .i64 FM.d, .int .i64 FM.x, .int .i64 FM.y, .slice (some ⟨gc, 0, none⟩) 0 0, .bool dk] := Row.up (show Row _ w1.heap.size #[.int .i64 C.a, .int .i64 C.b, .int .i64 C.c, .int .i64 C.d, .int .i64 C.x, .int .i64 C.y, .int .i64 1, .int .i64 0, .int .i64 0, .int .i64 0, .int .i64 0, .int .i64 65536, .int .i64 0, .int .i64 0, .int .i64 655360, .slice none 0 0, .int .i64 0, .int .i64 F, .int .i64 FM.a, .int .i64 FM.b, .int .i64 FM.c, .int .i64 FM.d, .int .i64 FM.x, .int .i64 FM.y, .slice (some ⟨gc, 0, none⟩) 0 0, .bool dk] from (by exact ra)) hu3; have l7_w3 := R7_w3.lt; have c7_w3_25 : w3.cell? ⟨w1.heap.size, 25, none⟩ = some (.bool dk) := R7_w3.cell 25 rfl; have f7_w3_25 := R7_w3.free 25; have c7_w3_17 : w3.cell? ⟨w1.heap.size, 17, none⟩ = some (.int .i64 F) := R7_w3.cell 17 rfl; have f7_w3_17 := R7_w3.free 17; have R8_w3 : Row w3 (w1.heap.size + 1) #[.int .i64 x, .int .i64 y] := Row.up (show Row _ (w1.heap.size + 1) #[.int .i64 x, .int .i64 y] from (by exact ro)) hu3; have l8_w3 := R8_w3.lt; have c8_w3_0 : w3.cell? ⟨(w1.heap.size + 1), 0, none⟩ = some (.int .i64 x) := R8_w3.cell 0 rfl; have f8_w3_0 := R8_w3.free 0; have c8_w3_1 : w3.cell? ⟨(w1.heap.size + 1), 1, none⟩ = some (.int .i64 y) := R8_w3.cell 1 rfl; have f8_w3_1 := R8_w3.free 1; skip))
    | (go_at_call 34; ((with_reducible refine (moved_calls C 65536 0 F FM _ dk x y bx bz _).mono ?_); rw [HM.out]; rintro E w4 ⟨rfl, hu4⟩; have z4 := hu4.size; (try simp at z4); have R7_w4 : Row w4 w1.heap.size #[.int .i64 C.a, .int .i64 C.b, .int .i64 C.c, .int .i64 C.d, .int .i64 C.x, .int .i64 C.y, .int .i64 1, .int .i64 0, .int .i64 0, .int .i64 0, .int .i64 0, .int .i64 65536, .int .i64 0, .int .i64 0, .int .i64 655360, .slice none 0 0, .int .i64 0, .int .i64 F, .int .i64 FM.a, .int .i64 FM.b, .int .i64 FM.c, .int .i64 FM.d, .int .i64 FM.x, .int .i64 FM.y, .slice (some ⟨gc, 0, none⟩) 0 0, .bool dk] := Row.up (show Row _ w1.heap.size #[.int .i64 C.a, .int .i64 C.b, .int .i64 C.c, .int .i64 C.d, .int .i64 C.x, .int .i64 C.y, .int .i64 1, .int .i64 0, .int .i64 0, .int .i64 0, .int .i64 0, .int .i64 65536, .int .i64 0, .int .i64 0, .int .i64 655360, .slice none 0 0, .int .i64 0, .int .i64 F, .int .i64 FM.a, .int .i64 FM.b, .int .i64 FM.c, .int .i64 FM.d, .int .i64 FM.x, .int .i64 FM.y, .slice (some ⟨gc, 0, none⟩) 0 0, .bool dk] from (by exact ra)) hu4; have l7_w4 := R7_w4.lt; have c7_w4_25 : w4.cell? ⟨w1.heap.size, 25, none⟩ = some (.bool dk) := R7_w4.cell 25 rfl; have f7_w4_25 := R7_w4.free 25; have c7_w4_17 : w4.cell? ⟨w1.heap.size, 17, none⟩ = some (.int .i64 F) := R7_w4.cell 17 rfl; have f7_w4_17 := R7_w4.free 17; have R8_w4 : Row w4 (w1.heap.size + 1) #[.int .i64 x, .int .i64 y] := Row.up (show Row _ (w1.heap.size + 1) #[.int .i64 x, .int .i64 y] from (by exact ra)) hu4; have l8_w4 := R8_w4.lt; have c8_w4_0 : w4.cell? ⟨(w1.heap.size + 1), 0, none⟩ = some (.int .i64 x) := R8_w4.cell 0 rfl; have f8_w4_0 := R8_w4.free 0; have c8_w4_1 : w4.cell? ⟨(w1.heap.size + 1), 1, none⟩ = some (.int .i64 y) := R8_w4.cell 1 rfl; have f8_w4_1 := R8_w4.free 1; have R10_w4 : Row w4 w3.heap.size #[.int .i64 bx, .int .i64 bz] := Row.up (show Row _ w3.heap.size #[.int .i64 bx, .int .i64 bz] from (by exact ro)) hu4; have l10_w4 := R10_w4.lt; have c10_w4_0 : w4.cell? ⟨w3.heap.size, 0, none⟩ = some (.int .i64 bx) := R10_w4.cell 0 rfl; have f10_w4_0 := R10_w4.free 0; have c10_w4_1 : w4.cell? ⟨w3.heap.size, 1, none⟩ = some (.int .i64 bz) := R10_w4.cell 1 rfl; have f10_w4_1 := R10_w4.free 1; have HU4 := Lib.hid (show Up w w4 from (show Chg [] w w4 by (repeat' (first | (with_reducible first | exact Chg.refl _ _ | assumption | refine Chg.alloc ?_ _ | refine Chg.drew ?_ | refine Chg.drewN ?_ _ | refine Chg.setCell ?_ ?_ _ | refine Chg.upc ?_ (by assumption) | refine Chg.call ?_ (by assumption) ?_) | (refine Or.inl ?_; (simp; done)) | (simp; done) | (simp; omega) | omega))).up))))
  go_ret
  exact ⟨rfl, (show Chg [] w _ by (repeat' (first | (with_reducible first | exact Chg.refl _ _ | assumption | refine Chg.alloc ?_ _ | refine Chg.drew ?_ | refine Chg.drewN ?_ _ | refine Chg.setCell ?_ ?_ _ | refine Chg.upc ?_ (by assumption) | refine Chg.call ?_ (by assumption) ?_) | (refine Or.inl ?_; (simp; done)) | (simp; done) | (simp; omega) | omega))).up⟩

set_option maxRecDepth 8000 in
set_option maxHeartbeats 4000000 in
theorem show_empty (g p c : Nat) (C : M6) (F : Int) (FM : M6) (dk : Bool) (n : Int) (pv v : Value) (T : St) (l : List Cl) (x y : Int) (ba : Option Addr) (bc N : Nat) (bs : List Int) (w : World) (h : Prg w g p c C F FM dk n pv v T l)
    (hN : bs.length = N) (hv : Ints .u8 w (.slice ba N bc) bs) (hl : N ≤ 65535) (hR : placeR F T = ((x, y), 0)) (bx bz tx tz : Int) (hB : farR F FM bs = ((bx, bz), 0)) (hM : movedR C x y bx bz = ((tx, tz), 0)) (hLK : lastK T.l = 1) (hTM : (T.move (tx, tz)).2 = 0) (h0 : N = 0) :
    Calls Tryd.prog 11 #[.pointer (some ⟨c, 0, none⟩), .pointer (some ⟨g, 0, none⟩), .slice ba N bc] w fun E w' => E = .returned (.int .i64 0) ∧ Shown w g p c C F FM dk n pv v l (T.move (tx, tz)).1 [] w' := by
  have HH := Lib.hid h
  have HG := Lib.hid h.rg
  have HP := Lib.hid h.pa
  have HV := Lib.hid hv
  have HN := Lib.hid hN
  have HLP := Lib.hid h.pa.row.lt
  have HLV := Lib.hid (pv_lt h.pa)
  have HLC := Lib.hid h.cv.row.lt
  have HLO := Lib.hid (own_lt h.cv.its)
  clear h hv hN
  have HR := Lib.hid hR
  clear hR
  have HB := Lib.hid hB
  clear hB
  have HM := Lib.hid hM
  clear hM
  have HLK := Lib.hid hLK
  have HTM := Lib.hid hTM
  clear hLK hTM
  have tl : decide ((65535 : Int) < (N : Int)) = false := decide_eq_false (by omega)
  have t1 : decide ((0 : Int) < (N : Int)) = false := decide_eq_false (by omega)
  have t2 : decide (0 < N) = false := decide_eq_false (by omega)
  clear h0
  go_enter Tryd.func11, Tryd.ntmps11
  go_wp2_with (first
    | (go_at_call 33; ((with_reducible refine (ready_calls g C 65536 0 F FM dk p 2 n pv T _ (HG.out.up (by exact ua)) (HP.out.up (by exact ua))).mono ?_); rw [HR.out]; rintro E w1 ⟨⟨gc, hg1, rfl⟩, hu1⟩; have z1 := hu1.size; (try simp at z1); have HU1 := Lib.hid (show Up w w1 by exact ua)))
    | ((refine wpList_store_Row rfl 74 (.tmp 7) _ rfl w1.heap.size #[.int .i64 C.a, .int .i64 C.b, .int .i64 C.c, .int .i64 C.d, .int .i64 C.x, .int .i64 C.y, .int .i64 1, .int .i64 0, .int .i64 0, .int .i64 0, .int .i64 0, .int .i64 65536, .int .i64 0, .int .i64 0, .int .i64 655360, .slice none 0 0, .int .i64 0, .int .i64 F, .int .i64 FM.a, .int .i64 FM.b, .int .i64 FM.c, .int .i64 FM.d, .int .i64 FM.x, .int .i64 FM.y, .slice (some ⟨gc, 0, none⟩) 0 0, .bool dk] rfl rfl #[.int .i64 0, .int .i64 0, .int .i64 0, .int .i64 0, .int .i64 0, .int .i64 0, .int .i64 0, .int .i64 0, .int .i64 0, .int .i64 0, .int .i64 0, .int .i64 0, .int .i64 0, .int .i64 0, .int .i64 0, .slice none 0 0, .int .i64 0, .int .i64 0, .int .i64 0, .int .i64 0, .int .i64 0, .int .i64 0, .int .i64 0, .int .i64 0, .slice none 0 0, .bool false] (by exact ra) infoSt rfl rfl (by simp [Value.oneCell']) ?_); intro w2 hr2 hc2; have z2 := hc2.size; (try simp at z2); have R7_w2 := hr2; have RP2 : Row w2 (w1.heap.size + 1) #[.int .i64 0, .int .i64 0] := (by exact ra); have lp2 := RP2.lt; have p2_0 : w2.cell? ⟨w1.heap.size + 1, 0, none⟩ = some (.int .i64 0) := RP2.cell 0 rfl; have pf2_0 := RP2.free 0; have p2_1 : w2.cell? ⟨w1.heap.size + 1, 1, none⟩ = some (.int .i64 0) := RP2.cell 1 rfl; have pf2_1 := RP2.free 1)
    | (refine wpList_load_Row rfl 74 (.tmp 7) rfl w1.heap.size rfl #[.int .i64 C.a, .int .i64 C.b, .int .i64 C.c, .int .i64 C.d, .int .i64 C.x, .int .i64 C.y, .int .i64 1, .int .i64 0, .int .i64 0, .int .i64 0, .int .i64 0, .int .i64 65536, .int .i64 0, .int .i64 0, .int .i64 655360, .slice none 0 0, .int .i64 0, .int .i64 F, .int .i64 FM.a, .int .i64 FM.b, .int .i64 FM.c, .int .i64 FM.d, .int .i64 FM.x, .int .i64 FM.y, .slice (some ⟨gc, 0, none⟩) 0 0, .bool dk] _ (by first | with_reducible assumption | exact ra) Tryd.underlying74 rfl infoSt rfl ?_)
    | (go_at_call 28; ((with_reducible refine (far_calls C 65536 0 F FM _ dk (.slice ba N bc) bs _ (HV.out.up ((show Chg [] w _ from (by (repeat' (first | (with_reducible first | exact Chg.refl _ _ | assumption | refine Chg.alloc ?_ _ | refine Chg.drew ?_ | refine Chg.drewN ?_ _ | refine Chg.setCell ?_ ?_ _ | refine Chg.upc ?_ (by assumption) | refine Chg.call ?_ (by assumption) ?_) | (refine Or.inl ?_; (simp; done)) | (simp; done) | (simp; omega) | omega)))).up)) (by have := HN.out; omega)).mono ?_); rw [HB.out]; rintro E w3 ⟨rfl, hu3⟩; have z3 := hu3.size; (try simp at z3); have R7_w3 : Row w3 w1.heap.size #[.int .i64 C.a, .int .i64 C.b, .int .i64 C.c, .int .i64 C.d, .int .i64 C.x, .int .i64 C.y, .int .i64 1, .int .i64 0, .int .i64 0, .int .i64 0, .int .i64 0, .int .i64 65536, .int .i64 0, .int .i64 0, .int .i64 655360, .slice none 0 0, .int .i64 0, .int .i64 F, .int .i64 FM.a, .int .i64 FM.b, .int .i64 FM.c, .int .i64 FM.d, .int .i64 FM.x, .int .i64 FM.y, .slice (some ⟨gc, 0, none⟩) 0 0, .bool dk] := Row.up (show Row _ w1.heap.size #[.int .i64 C.a, .int .i64 C.b, .int .i64 C.c, .int .i64 C.d, .int .i64 C.x, .int .i64 C.y, .int .i64 1, .int .i64 0, .int .i64 0, .int .i64 0, .int .i64 0, .int .i64 65536, .int .i64 0, .int .i64 0, .int .i64 655360, .slice none 0 0, .int .i64 0, .int .i64 F, .int .i64 FM.a, .int .i64 FM.b, .int .i64 FM.c, .int .i64 FM.d, .int .i64 FM.x, .int .i64 FM.y, .slice (some ⟨gc, 0, none⟩) 0 0, .bool dk] from (by exact ra)) hu3; have l7_w3 := R7_w3.lt; have c7_w3_25 : w3.cell? ⟨w1.heap.size, 25, none⟩ = some (.bool dk) := R7_w3.cell 25 rfl; have f7_w3_25 := R7_w3.free 25; have c7_w3_17 : w3.cell? ⟨w1.heap.size, 17, none⟩ = some (.int .i64 F) := R7_w3.cell 17 rfl; have f7_w3_17 := R7_w3.free 17; have R8_w3 : Row w3 (w1.heap.size + 1) #[.int .i64 x, .int .i64 y] := Row.up (show Row _ (w1.heap.size + 1) #[.int .i64 x, .int .i64 y] from (by exact ro)) hu3; have l8_w3 := R8_w3.lt; have c8_w3_0 : w3.cell? ⟨(w1.heap.size + 1), 0, none⟩ = some (.int .i64 x) := R8_w3.cell 0 rfl; have f8_w3_0 := R8_w3.free 0; have c8_w3_1 : w3.cell? ⟨(w1.heap.size + 1), 1, none⟩ = some (.int .i64 y) := R8_w3.cell 1 rfl; have f8_w3_1 := R8_w3.free 1; skip))
    | (go_at_call 34; ((with_reducible refine (moved_calls C 65536 0 F FM _ dk x y bx bz _).mono ?_); rw [HM.out]; rintro E w4 ⟨rfl, hu4⟩; have z4 := hu4.size; (try simp at z4); have R7_w4 : Row w4 w1.heap.size #[.int .i64 C.a, .int .i64 C.b, .int .i64 C.c, .int .i64 C.d, .int .i64 C.x, .int .i64 C.y, .int .i64 1, .int .i64 0, .int .i64 0, .int .i64 0, .int .i64 0, .int .i64 65536, .int .i64 0, .int .i64 0, .int .i64 655360, .slice none 0 0, .int .i64 0, .int .i64 F, .int .i64 FM.a, .int .i64 FM.b, .int .i64 FM.c, .int .i64 FM.d, .int .i64 FM.x, .int .i64 FM.y, .slice (some ⟨gc, 0, none⟩) 0 0, .bool dk] := Row.up (show Row _ w1.heap.size #[.int .i64 C.a, .int .i64 C.b, .int .i64 C.c, .int .i64 C.d, .int .i64 C.x, .int .i64 C.y, .int .i64 1, .int .i64 0, .int .i64 0, .int .i64 0, .int .i64 0, .int .i64 65536, .int .i64 0, .int .i64 0, .int .i64 655360, .slice none 0 0, .int .i64 0, .int .i64 F, .int .i64 FM.a, .int .i64 FM.b, .int .i64 FM.c, .int .i64 FM.d, .int .i64 FM.x, .int .i64 FM.y, .slice (some ⟨gc, 0, none⟩) 0 0, .bool dk] from (by exact ra)) hu4; have l7_w4 := R7_w4.lt; have c7_w4_25 : w4.cell? ⟨w1.heap.size, 25, none⟩ = some (.bool dk) := R7_w4.cell 25 rfl; have f7_w4_25 := R7_w4.free 25; have c7_w4_17 : w4.cell? ⟨w1.heap.size, 17, none⟩ = some (.int .i64 F) := R7_w4.cell 17 rfl; have f7_w4_17 := R7_w4.free 17; have R8_w4 : Row w4 (w1.heap.size + 1) #[.int .i64 x, .int .i64 y] := Row.up (show Row _ (w1.heap.size + 1) #[.int .i64 x, .int .i64 y] from (by exact ra)) hu4; have l8_w4 := R8_w4.lt; have c8_w4_0 : w4.cell? ⟨(w1.heap.size + 1), 0, none⟩ = some (.int .i64 x) := R8_w4.cell 0 rfl; have f8_w4_0 := R8_w4.free 0; have c8_w4_1 : w4.cell? ⟨(w1.heap.size + 1), 1, none⟩ = some (.int .i64 y) := R8_w4.cell 1 rfl; have f8_w4_1 := R8_w4.free 1; have R10_w4 : Row w4 w3.heap.size #[.int .i64 bx, .int .i64 bz] := Row.up (show Row _ w3.heap.size #[.int .i64 bx, .int .i64 bz] from (by exact ro)) hu4; have l10_w4 := R10_w4.lt; have c10_w4_0 : w4.cell? ⟨w3.heap.size, 0, none⟩ = some (.int .i64 bx) := R10_w4.cell 0 rfl; have f10_w4_0 := R10_w4.free 0; have c10_w4_1 : w4.cell? ⟨w3.heap.size, 1, none⟩ = some (.int .i64 bz) := R10_w4.cell 1 rfl; have f10_w4_1 := R10_w4.free 1; have HU4 := Lib.hid (show Up w w4 from (show Chg [] w w4 by (repeat' (first | (with_reducible first | exact Chg.refl _ _ | assumption | refine Chg.alloc ?_ _ | refine Chg.drew ?_ | refine Chg.drewN ?_ _ | refine Chg.setCell ?_ ?_ _ | refine Chg.upc ?_ (by assumption) | refine Chg.call ?_ (by assumption) ?_) | (refine Or.inl ?_; (simp; done)) | (simp; done) | (simp; omega) | omega))).up))))
  refine wp_region_held_drew (S := fun w' => Row w' w4.heap.size #[.int .i64 tx, .int .i64 tz]) (by kernel_rfl) ?_ (fun hHeld => ?_)
  · exact Row.drew (show Row _ w4.heap.size #[.int .i64 tx, .int .i64 tz] from (by exact ro))
  refine wpAnyH_take (i := 0) (v := ?_) rfl (by kernel_rfl) (by kernel_rfl) (by kernel_rfl) (fun _ _ _ h => h) (Or.inl ⟨by rfl, ?_⟩) (by assumption) ?_
  rotate_left
  · intro w2 hSw
    (try dsimp only at hSw)
    (try (obtain ⟨hs1, hs2, hs3⟩ := hSw))
    go_simp
    (try (with_reducible rfl))
  (try simp only [Act.put, lga, lgz, lgs, lsa, lsz, lss])
  refine wpAnyH_take (i := 3) rfl (by kernel_rfl) (by kernel_rfl) (by kernel_rfl) (fun _ _ _ h => h) (yieldsIf_load_mid (by rfl) 24 (.tmp 11) rfl w4.heap.size 0 rfl #[.int .i64 tx, .int .i64 tz].toList _ (fun _ h => rng0 h) Tryd.underlying24 rfl (by exact infoP)) (by assumption) ?_
  (try simp only [Act.put, lga, lgz, lgs, lsa, lsz, lss])
  refine wpAnyH_ready (rs := [1]) (by decide +kernel) (by simp) ?_
  refine AllReadyH.cons rfl (fun K hK => ?_) (AllReadyH.nil)
  (try simp only [lga, lgz, lgs])
  (go_simp; go_at_call 16; (with_reducible refine (path_calls g p _ ((HG.out.up (show Up w _ from (show Chg [] w _ by (repeat' (first | (with_reducible first | exact Chg.refl _ _ | assumption | refine Chg.alloc ?_ _ | refine Chg.drew ?_ | refine Chg.drewN ?_ _ | refine Chg.setCell ?_ ?_ _ | refine Chg.upc ?_ (by assumption) | refine Chg.call ?_ (by assumption) ?_) | (refine Or.inl ?_; (simp; done)) | (simp; done) | (simp; omega) | omega))).up)).cell 26 rfl)).mono ?_); rintro E wx ⟨rfl, rfl⟩; (try dsimp only))
  refine hK.out _ _ ?_ (fun hHeld => ?_)
  · exact hHeld
  clear hK K
  (try simp only [Act.put, lga, lgz, lgs, lsa, lsz, lss])
  refine wpAnyH_ready (rs := [2]) (by decide +kernel) (by simp) ?_
  refine AllReadyH.cons rfl (fun K hK => ?_) (AllReadyH.nil)
  (try simp only [lga, lgz, lgs])
  (go_simp; go_at_call 35; (with_reducible refine (Path.copy_calls p pv T _ (HP.out.up (show Up w _ from (show Chg [] w _ by (repeat' (first | (with_reducible first | exact Chg.refl _ _ | assumption | refine Chg.alloc ?_ _ | refine Chg.drew ?_ | refine Chg.drewN ?_ _ | refine Chg.setCell ?_ ?_ _ | refine Chg.upc ?_ (by assumption) | refine Chg.call ?_ (by assumption) ?_) | (refine Or.inl ?_; (simp; done)) | (simp; done) | (simp; omega) | omega))).up))).mono ?_); rintro E w5 ⟨p5, pv5, rfl, hp5, hq5, hu5, ho5⟩; have z5 := hu5.size; (try simp at z5); (try simp at hp5); (try simp at ho5); have HQ5 := Lib.hid hq5; clear hq5; have R7_w5 : Row w5 w1.heap.size #[.int .i64 C.a, .int .i64 C.b, .int .i64 C.c, .int .i64 C.d, .int .i64 C.x, .int .i64 C.y, .int .i64 1, .int .i64 0, .int .i64 0, .int .i64 0, .int .i64 0, .int .i64 65536, .int .i64 0, .int .i64 0, .int .i64 655360, .slice none 0 0, .int .i64 0, .int .i64 F, .int .i64 FM.a, .int .i64 FM.b, .int .i64 FM.c, .int .i64 FM.d, .int .i64 FM.x, .int .i64 FM.y, .slice (some ⟨gc, 0, none⟩) 0 0, .bool dk] := Row.up (show Row _ w1.heap.size #[.int .i64 C.a, .int .i64 C.b, .int .i64 C.c, .int .i64 C.d, .int .i64 C.x, .int .i64 C.y, .int .i64 1, .int .i64 0, .int .i64 0, .int .i64 0, .int .i64 0, .int .i64 65536, .int .i64 0, .int .i64 0, .int .i64 655360, .slice none 0 0, .int .i64 0, .int .i64 F, .int .i64 FM.a, .int .i64 FM.b, .int .i64 FM.c, .int .i64 FM.d, .int .i64 FM.x, .int .i64 FM.y, .slice (some ⟨gc, 0, none⟩) 0 0, .bool dk] from (by exact ra)) hu5; have l7_w5 := R7_w5.lt; have c7_w5_25 : w5.cell? ⟨w1.heap.size, 25, none⟩ = some (.bool dk) := R7_w5.cell 25 rfl; have f7_w5_25 := R7_w5.free 25; have c7_w5_17 : w5.cell? ⟨w1.heap.size, 17, none⟩ = some (.int .i64 F) := R7_w5.cell 17 rfl; have f7_w5_17 := R7_w5.free 17; have R8_w5 : Row w5 (w1.heap.size + 1) #[.int .i64 x, .int .i64 y] := Row.up (show Row _ (w1.heap.size + 1) #[.int .i64 x, .int .i64 y] from (by exact ra)) hu5; have l8_w5 := R8_w5.lt; have c8_w5_0 : w5.cell? ⟨(w1.heap.size + 1), 0, none⟩ = some (.int .i64 x) := R8_w5.cell 0 rfl; have f8_w5_0 := R8_w5.free 0; have c8_w5_1 : w5.cell? ⟨(w1.heap.size + 1), 1, none⟩ = some (.int .i64 y) := R8_w5.cell 1 rfl; have f8_w5_1 := R8_w5.free 1; have R11_w5 : Row w5 w4.heap.size #[.int .i64 tx, .int .i64 tz] := Row.up (show Row _ w4.heap.size #[.int .i64 tx, .int .i64 tz] from (by exact ro)) hu5; have l11_w5 := R11_w5.lt; have c11_w5_0 : w5.cell? ⟨w4.heap.size, 0, none⟩ = some (.int .i64 tx) := R11_w5.cell 0 rfl; have f11_w5_0 := R11_w5.free 0; have c11_w5_1 : w5.cell? ⟨w4.heap.size, 1, none⟩ = some (.int .i64 tz) := R11_w5.cell 1 rfl; have f11_w5_1 := R11_w5.free 1; (try dsimp only))
  refine hK.out _ _ ?_ (fun hHeld => ?_)
  · exact R11_w5
  clear hK K
  (try simp only [Act.put, lga, lgz, lgs, lsa, lsz, lss])
  refine wpAnyH_ready (rs := [4]) (by decide +kernel) (by simp) ?_
  refine AllReadyH.cons rfl (fun K hK => ?_) (AllReadyH.nil)
  (try simp only [lga, lgz, lgs])
  (go_simp; go_at_call 25; (with_reducible refine (Path.move_onto p5 pv5 T tx tz _ HQ5.out HLK.out).mono ?_); rw [HTM.out]; rintro E w6 ⟨rfl, hl6⟩; (obtain ⟨pv6, -, hc6, -⟩ := hl6); have hu6 : Up w4 w6 := ((show Chg [] w4 w5 by (repeat' (first | (with_reducible first | exact Chg.refl _ _ | assumption | refine Chg.alloc ?_ _ | refine Chg.drew ?_ | refine Chg.drewN ?_ _ | refine Chg.setCell ?_ ?_ _ | refine Chg.upc ?_ (by assumption) | refine Chg.call ?_ (by assumption) ?_) | (refine Or.inl ?_; (simp; done)) | (simp; done) | (simp; omega) | omega))).call hc6 (fun k hk => Or.inr (by rcases List.mem_cons.1 hk with h1 | h1; (omega); (have := ho5 k (Path.own_of h1); omega)))).up; have z6 := hu6.size; have R7_w6 := R7_w4.up hu6; have R8_w6 := R8_w4.up hu6; have R11_w6 : Row w6 w4.heap.size #[.int .i64 tx, .int .i64 tz] := R11_w5.chg hc6 (fun hk => by rcases List.mem_cons.1 hk with h1 | h1; (omega); (have := ho5 _ (Path.own_of h1); omega)); have l7_w6 := R7_w6.lt; have c7_w6_25 : w6.cell? ⟨w1.heap.size, 25, none⟩ = some (.bool dk) := R7_w6.cell 25 rfl; have f7_w6_25 := R7_w6.free 25; have c7_w6_17 : w6.cell? ⟨w1.heap.size, 17, none⟩ = some (.int .i64 F) := R7_w6.cell 17 rfl; have f7_w6_17 := R7_w6.free 17; have l8_w6 := R8_w6.lt; have c8_w6_0 : w6.cell? ⟨(w1.heap.size + 1), 0, none⟩ = some (.int .i64 x) := R8_w6.cell 0 rfl; have f8_w6_0 := R8_w6.free 0; have c8_w6_1 : w6.cell? ⟨(w1.heap.size + 1), 1, none⟩ = some (.int .i64 y) := R8_w6.cell 1 rfl; have f8_w6_1 := R8_w6.free 1; have l11_w6 := R11_w6.lt; have c11_w6_0 : w6.cell? ⟨w4.heap.size, 0, none⟩ = some (.int .i64 tx) := R11_w6.cell 0 rfl; have f11_w6_0 := R11_w6.free 0; have c11_w6_1 : w6.cell? ⟨w4.heap.size, 1, none⟩ = some (.int .i64 tz) := R11_w6.cell 1 rfl; have f11_w6_1 := R11_w6.free 1; have HU6 := Lib.hid (show Up w w6 from Up.call HU4.out hu6); clear HQ5; (try dsimp only))
  refine hK.out _ _ ?_ (fun hHeld => ?_)
  · exact R11_w6
  clear hK K
  (try simp only [Act.put, lga, lgz, lgs, lsa, lsz, lss])
  refine wpAnyH_take (i := 5) (v := ?_) rfl (by kernel_rfl) (by kernel_rfl) (by kernel_rfl) (fun _ _ _ h => h) (Or.inl ⟨by rfl, ?_⟩) (by assumption) ?_
  rotate_left
  · intro w2 hSw
    (try dsimp only at hSw)
    (try (obtain ⟨hs1, hs2, hs3⟩ := hSw))
    go_simp
    (try (with_reducible rfl))
  (try simp only [Act.put, lga, lgz, lgs, lsa, lsz, lss])
  refine wpAnyH_done (by kernel_rfl) ?_ _
  clear hHeld
  go_wp2
  refine wp_region_held_drew (S := fun w' => Row w' w4.heap.size #[.int .i64 tx, .int .i64 tz]) (by kernel_rfl) ?_ (fun hHeld => ?_)
  · exact Row.drew R11_w6
  refine wpAnyH_take (i := 0) (v := ?_) rfl (by kernel_rfl) (by kernel_rfl) (by kernel_rfl) (fun _ _ _ h => h) (Or.inl ⟨by rfl, ?_⟩) (by assumption) ?_
  rotate_left
  · intro w2 hSw
    (try dsimp only at hSw)
    (try (obtain ⟨hs1, hs2, hs3⟩ := hSw))
    go_simp
    (try (with_reducible rfl))
  (try simp only [Act.put, lga, lgz, lgs, lsa, lsz, lss])
  refine wpAnyH_take (i := 2) rfl (by kernel_rfl) (by kernel_rfl) (by kernel_rfl) (fun _ _ _ h => h) (yieldsIf_load_mid (by rfl) 24 (.tmp 11) rfl w4.heap.size 0 rfl #[.int .i64 tx, .int .i64 tz].toList _ (fun _ h => rng0 h) Tryd.underlying24 rfl (by exact infoP)) (by assumption) ?_
  (try simp only [Act.put, lga, lgz, lgs, lsa, lsz, lss])
  refine wpAnyH_ready (rs := [1]) (by decide +kernel) (by simp) ?_
  refine AllReadyH.cons rfl (fun K hK => ?_) (AllReadyH.nil)
  (try simp only [lga, lgz, lgs])
  (go_simp; go_at_call 16; (with_reducible refine (path_calls g p _ (Row.cell (show Row _ g (gsC C 65536 (.slice none 0 0) 0 F FM dk p 2 n) from Row.drew (HG.out.up HU6.out)) 26 rfl)).mono ?_); rintro E wx ⟨rfl, rfl⟩; (try dsimp only))
  refine hK.out _ _ ?_ (fun hHeld => ?_)
  · exact hHeld
  clear hK K
  (try simp only [Act.put, lga, lgz, lgs, lsa, lsz, lss])
  refine wpAnyH_ready (rs := [3]) (by decide +kernel) (by simp) ?_
  refine AllReadyH.cons rfl (fun K hK => ?_) (AllReadyH.nil)
  (try simp only [lga, lgz, lgs])
  (go_simp; go_at_call 25; (with_reducible refine (Path.move_onto p pv T tx tz _ (Path.PathIs.up (w := w6) (HP.out.up HU6.out) (Up.drew (Up.refl _))) HLK.out).mono ?_); rw [HTM.out]; rintro E w7 ⟨rfl, hl7⟩; have HL7 := Lib.hid (Path.Left.of_up (show Up w6 _ from Up.drew (Up.refl _)) hl7); (try dsimp only))
  refine hK.out _ _ ?_ (fun hHeld => ?_)
  · exact (let ⟨_, _, hc7, _⟩ := hl7; Row.chg hHeld hc7 (fun hk => by rcases List.mem_cons.1 hk with h1 | h1; (have := HLP.out; omega); (have := HLV.out _ h1; omega)))
  clear hK K
  (try simp only [Act.put, lga, lgz, lgs, lsa, lsz, lss])
  refine wpAnyH_take (i := 4) (v := ?_) rfl (by kernel_rfl) (by kernel_rfl) (by kernel_rfl) (fun _ _ _ h => h) (Or.inl ⟨by rfl, ?_⟩) (by assumption) ?_
  rotate_left
  · intro w2 hSw
    (try dsimp only at hSw)
    (try (obtain ⟨hs1, hs2, hs3⟩ := hSw))
    go_simp
    (try (with_reducible rfl))
  (try simp only [Act.put, lga, lgz, lgs, lsa, lsz, lss])
  refine wpAnyH_done (by kernel_rfl) ?_ _
  clear hHeld
  go_wp2
  go_ret
  exact ⟨rfl, Shown.of_up HU6.out (Shown.moved (HH.out.up HU6.out) HL7.out)⟩

end Go.Proofs.YtjdbefpfjhdmoaaDoor.Sh
end
