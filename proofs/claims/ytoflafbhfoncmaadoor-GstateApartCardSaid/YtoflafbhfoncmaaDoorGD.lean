/- gstate's Init of any states. No condition. gstate's Clip of any states. Its condition: lengths that an append bears. The path of any states; another state of the same lists. No condition but a length. Calls with numbers, on what states say. Its conditions: the fonts' names; the matrix's last two numbers. SetDash, Save, Restore, RestoreAll, Init, Clip on what states say. Its conditions: lengths. -/
import Derived.Test.YtoflafbhfoncmaaDoorGC
import Derived.Deep.AppendLies
section
namespace Go.Proofs.YtoflafbhfoncmaaDoor.Gt
open List renaming getElem_toArray → lga, getElem_cons_zero → lgz, getElem_cons_succ → lgs, setIfInBounds_toArray → lsa, set_cons_zero → lsz, set_cons_succ → lss
open Go.ChangeShapes Go.WideShapes Go.ChangeAt Go.RowKit
open Go.Proofs.YtoflafbhfoncmaaDoor.FixM (fits)
open Go.Proofs.YtoflafbhfoncmaaDoor.MatM (M6)
open Go.Proofs.YtoflafbhfoncmaaDoor.PathM (Seg St Z segCells)
open Go.Proofs.YtoflafbhfoncmaaDoor.Path (own own_mem own_of PathIs Segs)
open Go.Proofs.YtoflafbhfoncmaaDoor.Pt (Clip clipCells Src)
set_option linter.unusedVariables false
set_option linter.unusedSimpArgs false

theorem To.newL {w w1 w2 : World} {g : Nat} {x : X} {l : Lv} (h : G w g x) (hu : Up w w1) (ho : LO w1 l) (hf : ∀ b ∈ l.bl, w.heap.size ≤ b ∧ b < w1.heap.size) (hr : Row w2 g (X.cells ⟨l, x.most, x.segs, x.sv, x.saved⟩).toArray) (hc : Chg [g] w1 w2) : To w w2 g x ⟨l, x.most, x.segs, x.sv, x.saved⟩ := by
  have hlt := h.lt
  have hgb : g < w.heap.size := h.row.lt
  obtain ⟨n1, n2⟩ := List.nodup_cons.1 h.nd
  obtain ⟨n3, n4, n5⟩ := List.nodup_append.1 n2
  have hch : Chg [g] w w2 := (Chg.of_up (S := [g]) hu).call hc (fun k hk => Or.inl hk)
  have ng : ∀ b ∈ x.low, b ∉ [g] := fun b hb h2 => by
    rw [List.mem_singleton] at h2
    rw [h2] at hb
    exact n1 (List.mem_append_right _ hb)
  refine ⟨⟨hr, ho.chg hc (fun b hb h2 => by rw [List.mem_singleton] at h2; have := (hf b hb).1; omega), owned_chg h.own hch (fun b hb => ng b (by simp [X.low, own_mem hb])), fun l2 hl2 => (h.svs l2 hl2).chg hch (fun b hb => ng b (by simp only [X.low, List.mem_append, List.mem_flatMap]; exact Or.inr ⟨l2, hl2, hb⟩)), ?_⟩, (Chg.refl _ w).call hch (fun b hb => Or.inl (by rw [List.mem_singleton] at hb; rw [hb]; simp [X.bl])), ?_⟩
  · refine List.nodup_cons.2 ⟨fun hm => ?_, List.nodup_append.2 ⟨ho.nd, n4, fun a ha b hb e => ?_⟩⟩
    · rcases List.mem_append.1 hm with h1 | h1
      · have := (hf g h1).1; omega
      · exact n1 (List.mem_append_right _ h1)
    · have h1 := (hf a ha).1
      have h2 := hlt b (List.mem_cons_of_mem _ (List.mem_append_right _ hb))
      omega
  · intro b hb
    rcases List.mem_cons.1 hb with h1 | h1
    · exact Or.inl (by rw [h1]; simp [X.bl])
    rcases List.mem_append.1 h1 with h2 | h2
    · exact Or.inr (hf b h2).1
    · exact Or.inl (List.mem_cons_of_mem _ (List.mem_append_right _ h2))
theorem wp_store_part {o : Oper} {a : Act} {w : World} {K : Act → World → Prop} {Q : Exit → Act → World → Prop} (ty : TypeId) (x y : Operand) (ho : o.op = .store ty x y)
    (b : Nat) (new old tail : List Value) (hx : a.eval x = .pointer (some ⟨b, 0, none⟩)) (hy : a.eval y = .agg new.toArray) (h : Row w b (old ++ tail).toArray) (hl : old.length = new.length) {n : Nat} (hi : (Tryd.prog.info? ty).map (·.size) = some n) (hn : new.length = n) (h1 : ∀ u ∈ new, u.oneCell' = true)
    (hk : ∀ w2, Row w2 b (new ++ tail).toArray → Chg [b] w w2 → K (a.put o.dst undef) w2) : Oper.wp Tryd.prog o a w K Q := by
  have hr := row_setCells new old [] tail w hl h
  refine wp_store_mid ty x y ho b 0 new.toArray hx hy (there_row h (by simp; omega)) (by rw [hi, ← hn]; simp) (all_oneCell_toArray h1) ?_
  exact hk _ hr.1 hr.2
theorem row_fm {W : World} {b : Nat} {x : X} (h : Row W b #[.int .i64 x.l.s.c.a, .int .i64 x.l.s.c.b, .int .i64 x.l.s.c.c, .int .i64 x.l.s.c.d, .int .i64 x.l.s.c.x, .int .i64 x.l.s.c.y, .int .i64 x.l.s.sp, .int .i64 x.l.s.p0, .int .i64 x.l.s.p1, .int .i64 x.l.s.p2, .int .i64 x.l.s.p3, .int .i64 x.l.s.wd, .int .i64 x.l.s.cap, .int .i64 x.l.s.jn, .int .i64 x.l.s.mt, x.l.s.dv, .int .i64 x.l.s.ph, .int .i64 x.l.s.fn, .int .i64 x.l.s.fm.a, .int .i64 x.l.s.fm.b, .int .i64 x.l.s.fm.c, .int .i64 x.l.s.fm.d, .int .i64 x.l.s.fm.x, .int .i64 x.l.s.fm.y, x.l.s.cv, .bool x.l.s.dk, .pointer (some ⟨x.l.p, 0, none⟩), .int .i64 x.most, .int .i64 x.segs, x.sv]) : W.rangeAt b 18 #[.int .i64 x.l.s.fm.a, .int .i64 x.l.s.fm.b, .int .i64 x.l.s.fm.c, .int .i64 x.l.s.fm.d, .int .i64 x.l.s.fm.x, .int .i64 x.l.s.fm.y].toList := fun j v hj => by
  refine h.cell (18 + j) ?_
  match j, hj with
  | 0, hj => exact hj
  | 1, hj => exact hj
  | 2, hj => exact hj
  | 3, hj => exact hj
  | 4, hj => exact hj
  | 5, hj => exact hj
  | j + 6, hj => simp at hj
theorem pnew (most : Int) (w : World) : Calls Tryd.prog 21 #[.int .i64 most] w fun E w' => ∃ p, E = .returned (.pointer (some ⟨p, 0, none⟩)) ∧ w.heap.size ≤ p ∧ Up w w' ∧ PathIs w' p (.slice none 0 0) ⟨most, [], Z, Z⟩ :=
  (Path.new_calls most w).mono fun E w' h => ⟨w.heap.size, h.1, Nat.le_refl _, h.2⟩
/-- the state of the start, but for the font -/
def initS (fn : Int) (fm : M6) : S := ⟨⟨65536, 0, 0, 65536, 0, 0⟩, 1, 0, 0, 0, 0, 65536, 0, 0, 655360, .slice none 0 0, [], 0, fn, fm, .slice none 0 0, [], false⟩
theorem initS_o (w : World) (fn : Int) (fm : M6) : SO w (initS fn fm) := ⟨World.ownsRow_nil _ _ _ _, (fun z hz => by cases hz), World.ownsRow_nil _ _ _ _, (fun c hc => by cases hc), List.nodup_nil⟩
set_option maxRecDepth 8000 in
set_option maxHeartbeats 4000000 in
theorem init_X (g : Nat) (x : X) (w : World) (h : G w g x) :
    Calls Tryd.prog 24 #[.pointer (some ⟨g, 0, none⟩)] w fun E w' => E = .returned (.tuple #[]) ∧ ∃ p, To w w' g x ⟨⟨initS x.l.s.fn x.l.s.fm, p, .slice none 0 0, ⟨x.segs, [], Z, Z⟩⟩, x.most, x.segs, x.sv, x.saved⟩ := by
  have HG := Lib.hid h
  have HR : Hid (Row w g #[.int .i64 x.l.s.c.a, .int .i64 x.l.s.c.b, .int .i64 x.l.s.c.c, .int .i64 x.l.s.c.d, .int .i64 x.l.s.c.x, .int .i64 x.l.s.c.y, .int .i64 x.l.s.sp, .int .i64 x.l.s.p0, .int .i64 x.l.s.p1, .int .i64 x.l.s.p2, .int .i64 x.l.s.p3, .int .i64 x.l.s.wd, .int .i64 x.l.s.cap, .int .i64 x.l.s.jn, .int .i64 x.l.s.mt, x.l.s.dv, .int .i64 x.l.s.ph, .int .i64 x.l.s.fn, .int .i64 x.l.s.fm.a, .int .i64 x.l.s.fm.b, .int .i64 x.l.s.fm.c, .int .i64 x.l.s.fm.d, .int .i64 x.l.s.fm.x, .int .i64 x.l.s.fm.y, x.l.s.cv, .bool x.l.s.dk, .pointer (some ⟨x.l.p, 0, none⟩), .int .i64 x.most, .int .i64 x.segs, x.sv]) := Lib.hid h.row
  have lt := h.row.lt
  clear h
  go_enter Tryd.func24, Tryd.ntmps24
  go_wp2_with (first
    | (go_at_call 18; ((with_reducible refine (Gs.start_calls _).mono ?_); rintro E w1 ⟨rfl, hu1⟩; have z1 := hu1.size; have HU1 := Lib.hid hu1; have lt1 : g < w1.heap.size := Nat.lt_of_lt_of_le lt z1; obtain ⟨C0, hC0⟩ : ∃ C0 : Array Value, #[.int .i64 65536, .int .i64 0, .int .i64 0, .int .i64 65536, .int .i64 0, .int .i64 0, .int .i64 1, .int .i64 0, .int .i64 0, .int .i64 0, .int .i64 0, .int .i64 65536, .int .i64 0, .int .i64 0, .int .i64 655360, .slice none 0 0, .int .i64 0, .int .i64 (-1), .int .i64 65536, .int .i64 0, .int .i64 0, .int .i64 65536, .int .i64 0, .int .i64 0, .slice none 0 0, .bool false] = C0 := ⟨_, rfl⟩; have HC0 := Lib.hid hC0; have h0s : C0.size = 26 := (by rw [← hC0]; rfl); have h0c : C0.all (·.oneCell') = true := (by rw [← hC0]; simp [Value.oneCell']); rw [hC0]; clear hC0))
    | ((refine wpList_store_Row rfl 41 (.tmp 2) _ rfl w1.heap.size C0 rfl rfl #[.int .i64 0, .int .i64 0, .int .i64 0, .int .i64 0, .int .i64 0, .int .i64 0, .int .i64 0, .int .i64 0, .int .i64 0, .int .i64 0, .int .i64 0, .int .i64 0, .int .i64 0, .int .i64 0, .int .i64 0, .slice none 0 0, .int .i64 0, .int .i64 0, .int .i64 0, .int .i64 0, .int .i64 0, .int .i64 0, .int .i64 0, .int .i64 0, .slice none 0 0, .bool false] (by (repeat' (with_reducible first | assumption | (refine Row.at _ _ ?_; (simp; done)) | refine Row.alloc ?_ _ | refine Row.drew ?_ | refine Row.drewN ?_ _ | refine Row.other ?_ (by first | (simp; done) | (simp; omega) | omega) _ | refine Row.up ?_ (by assumption) | refine Row.chg ?_ (by assumption) (by first | (simp; done) | (simp; omega))))) Gs.infoSt h0s rfl h0c ?_); intro wA hrA hcA))
  have HCA : Hid (Chg [w1.heap.size] w1 wA) := Lib.hid ((Chg.of_up (S := [w1.heap.size]) (Up.alloc (Up.refl w1) _)).call hcA (fun k hk => Or.inl hk))
  have HUA : Hid (Up w wA) := Lib.hid (((Chg.of_up (S := []) HU1.out).call HCA.out (fun k hk => Or.inr (by simp at hk; omega))).up)
  have HR1 : Hid (Row wA g #[.int .i64 x.l.s.c.a, .int .i64 x.l.s.c.b, .int .i64 x.l.s.c.c, .int .i64 x.l.s.c.d, .int .i64 x.l.s.c.x, .int .i64 x.l.s.c.y, .int .i64 x.l.s.sp, .int .i64 x.l.s.p0, .int .i64 x.l.s.p1, .int .i64 x.l.s.p2, .int .i64 x.l.s.p3, .int .i64 x.l.s.wd, .int .i64 x.l.s.cap, .int .i64 x.l.s.jn, .int .i64 x.l.s.mt, x.l.s.dv, .int .i64 x.l.s.ph, .int .i64 x.l.s.fn, .int .i64 x.l.s.fm.a, .int .i64 x.l.s.fm.b, .int .i64 x.l.s.fm.c, .int .i64 x.l.s.fm.d, .int .i64 x.l.s.fm.x, .int .i64 x.l.s.fm.y, x.l.s.cv, .bool x.l.s.dk, .pointer (some ⟨x.l.p, 0, none⟩), .int .i64 x.most, .int .i64 x.segs, x.sv]) := Lib.hid (Row.chg (HR.out.up HU1.out) HCA.out (by simp; omega))
  have HLC : Hid (Row wA w1.heap.size #[.int .i64 65536, .int .i64 0, .int .i64 0, .int .i64 65536, .int .i64 0, .int .i64 0, .int .i64 1, .int .i64 0, .int .i64 0, .int .i64 0, .int .i64 0, .int .i64 65536, .int .i64 0, .int .i64 0, .int .i64 655360, .slice none 0 0, .int .i64 0, .int .i64 (-1), .int .i64 65536, .int .i64 0, .int .i64 0, .int .i64 65536, .int .i64 0, .int .i64 0, .slice none 0 0, .bool false]) := Lib.hid (by rw [HC0.out]; exact hrA)
  have hsz := HUA.out.size
  clear hrA hcA
  have llc := HLC.out.lt
  have c17 := HLC.out.cell 17 rfl
  have f17 := HLC.out.free 17
  have c18 := HLC.out.cell 18 rfl
  have f18 := HLC.out.free 18
  have c19 := HLC.out.cell 19 rfl
  have f19 := HLC.out.free 19
  have c20 := HLC.out.cell 20 rfl
  have f20 := HLC.out.free 20
  have c21 := HLC.out.cell 21 rfl
  have f21 := HLC.out.free 21
  have c22 := HLC.out.cell 22 rfl
  have f22 := HLC.out.free 22
  have c23 := HLC.out.cell 23 rfl
  have f23 := HLC.out.free 23
  refine wp_region_held_drew (S := fun w' => Row w' g #[.int .i64 x.l.s.c.a, .int .i64 x.l.s.c.b, .int .i64 x.l.s.c.c, .int .i64 x.l.s.c.d, .int .i64 x.l.s.c.x, .int .i64 x.l.s.c.y, .int .i64 x.l.s.sp, .int .i64 x.l.s.p0, .int .i64 x.l.s.p1, .int .i64 x.l.s.p2, .int .i64 x.l.s.p3, .int .i64 x.l.s.wd, .int .i64 x.l.s.cap, .int .i64 x.l.s.jn, .int .i64 x.l.s.mt, x.l.s.dv, .int .i64 x.l.s.ph, .int .i64 x.l.s.fn, .int .i64 x.l.s.fm.a, .int .i64 x.l.s.fm.b, .int .i64 x.l.s.fm.c, .int .i64 x.l.s.fm.d, .int .i64 x.l.s.fm.x, .int .i64 x.l.s.fm.y, x.l.s.cv, .bool x.l.s.dk, .pointer (some ⟨x.l.p, 0, none⟩), .int .i64 x.most, .int .i64 x.segs, x.sv] ∧ w'.cell? ⟨g, 17, none⟩ = some (.int .i64 x.l.s.fn)) (by kernel_rfl) ?_ (fun hHeld => ?_)
  · exact ⟨Row.drew HR1.out, (show Row _ g #[.int .i64 x.l.s.c.a, .int .i64 x.l.s.c.b, .int .i64 x.l.s.c.c, .int .i64 x.l.s.c.d, .int .i64 x.l.s.c.x, .int .i64 x.l.s.c.y, .int .i64 x.l.s.sp, .int .i64 x.l.s.p0, .int .i64 x.l.s.p1, .int .i64 x.l.s.p2, .int .i64 x.l.s.p3, .int .i64 x.l.s.wd, .int .i64 x.l.s.cap, .int .i64 x.l.s.jn, .int .i64 x.l.s.mt, x.l.s.dv, .int .i64 x.l.s.ph, .int .i64 x.l.s.fn, .int .i64 x.l.s.fm.a, .int .i64 x.l.s.fm.b, .int .i64 x.l.s.fm.c, .int .i64 x.l.s.fm.d, .int .i64 x.l.s.fm.x, .int .i64 x.l.s.fm.y, x.l.s.cv, .bool x.l.s.dk, .pointer (some ⟨x.l.p, 0, none⟩), .int .i64 x.most, .int .i64 x.segs, x.sv] from Row.drew HR1.out).cell 17 rfl⟩
  refine wpAnyH_take (i := 0) (v := ?_) rfl (by decide +kernel) (by decide +kernel) (by decide +kernel) (fun _ _ _ h => h) (Or.inl ⟨by rfl, ?_⟩) (by assumption) ?_
  rotate_left
  · intro w2 hSw
    (try dsimp only at hSw)
    (try (obtain ⟨hs1, hs2⟩ := hSw))
    go_simp
    (try (with_reducible rfl))
  (try simp only [Act.put, lga, lgz, lgs, lsa, lsz, lss])
  refine wpAnyH_take (i := 1) (v := ?_) rfl (by decide +kernel) (by decide +kernel) (by decide +kernel) (fun _ _ _ h => h) (Or.inl ⟨by rfl, ?_⟩) (by assumption) ?_
  rotate_left
  · intro w2 hSw
    (try dsimp only at hSw)
    (try (obtain ⟨hs1, hs2⟩ := hSw))
    go_simp
    (try (with_reducible rfl))
  (try simp only [Act.put, lga, lgz, lgs, lsa, lsz, lss])
  refine wpAnyH_take (i := 2) (v := ?_) rfl (by decide +kernel) (by decide +kernel) (by decide +kernel) (fun _ _ _ h => h) (Or.inl ⟨by rfl, ?_⟩) (by assumption) ?_
  rotate_left
  · intro w2 hSw
    (try dsimp only at hSw)
    (try (obtain ⟨hs1, hs2⟩ := hSw))
    go_simp
    (try (with_reducible rfl))
  (try simp only [Act.put, lga, lgz, lgs, lsa, lsz, lss])
  refine wpAnyH_take (i := 3) (v := ?_) rfl (by decide +kernel) (by decide +kernel) (by decide +kernel) (fun _ _ _ h => h) (Or.inl ⟨by rfl, ?_⟩) (by assumption) ?_
  rotate_left
  · intro w2 hSw
    (try dsimp only at hSw)
    (try (obtain ⟨hs1, hs2⟩ := hSw))
    go_simp
    (try (with_reducible rfl))
  (try simp only [Act.put, lga, lgz, lgs, lsa, lsz, lss])
  refine wpAnyH_take (i := 4) (v := ?_) rfl (by decide +kernel) (by decide +kernel) (by decide +kernel) (fun _ _ _ h => h) (Or.inl ⟨by rfl, ?_⟩) (by assumption) ?_
  rotate_left
  · intro w2 hSw
    (try dsimp only at hSw)
    (try (obtain ⟨hs1, hs2⟩ := hSw))
    go_simp
    (try (with_reducible rfl))
  (try simp only [Act.put, lga, lgz, lgs, lsa, lsz, lss])
  refine wpAnyH_take (i := 5) (v := ?_) rfl (by decide +kernel) (by decide +kernel) (by decide +kernel) (fun _ _ _ h => h) (Or.inl ⟨by rfl, ?_⟩) (by assumption) ?_
  rotate_left
  · intro w2 hSw
    (try dsimp only at hSw)
    (try (obtain ⟨hs1, hs2⟩ := hSw))
    go_simp
    (try (with_reducible rfl))
  (try simp only [Act.put, lga, lgz, lgs, lsa, lsz, lss])
  refine wpAnyH_take (i := 6) (v := ?_) rfl (by decide +kernel) (by decide +kernel) (by decide +kernel) (fun _ _ _ h => h) (Or.inl ⟨by rfl, ?_⟩) (by assumption) ?_
  rotate_left
  · intro w2 hSw
    (try dsimp only at hSw)
    (try (obtain ⟨hs1, hs2⟩ := hSw))
    go_simp
    (try (with_reducible rfl))
  (try simp only [Act.put, lga, lgz, lgs, lsa, lsz, lss])
  refine wpAnyH_take (i := 7) (v := ?_) rfl (by decide +kernel) (by decide +kernel) (by decide +kernel) (fun _ _ _ h => h) (Or.inl ⟨by rfl, ?_⟩) (by assumption) ?_
  rotate_left
  · intro w2 hSw
    (try dsimp only at hSw)
    (try (obtain ⟨hs1, hs2⟩ := hSw))
    go_simp
    (try (with_reducible rfl))
  (try simp only [Act.put, lga, lgz, lgs, lsa, lsz, lss])
  refine wpAnyH_take (i := 8) (v := ?_) rfl (by decide +kernel) (by decide +kernel) (by decide +kernel) (fun _ _ _ h => h) (Or.inl ⟨by rfl, ?_⟩) (by assumption) ?_
  rotate_left
  · intro w2 hSw
    (try dsimp only at hSw)
    (try (obtain ⟨hs1, hs2⟩ := hSw))
    go_simp
    (try (with_reducible rfl))
  (try simp only [Act.put, lga, lgz, lgs, lsa, lsz, lss])
  refine wpAnyH_take (i := 9) (v := ?_) rfl (by decide +kernel) (by decide +kernel) (by decide +kernel) (fun _ _ _ h => h) (Or.inl ⟨by rfl, ?_⟩) (by assumption) ?_
  rotate_left
  · intro w2 hSw
    (try dsimp only at hSw)
    (try (obtain ⟨hs1, hs2⟩ := hSw))
    go_simp
    (try (with_reducible rfl))
  (try simp only [Act.put, lga, lgz, lgs, lsa, lsz, lss])
  refine wpAnyH_take (i := 10) (v := ?_) rfl (by decide +kernel) (by decide +kernel) (by decide +kernel) (fun _ _ _ h => h) (Or.inl ⟨by rfl, ?_⟩) (by assumption) ?_
  rotate_left
  · intro w2 hSw
    (try dsimp only at hSw)
    (try (obtain ⟨hs1, hs2⟩ := hSw))
    go_simp
    (try (with_reducible rfl))
  (try simp only [Act.put, lga, lgz, lgs, lsa, lsz, lss])
  refine wpAnyH_take (i := 11) rfl (by decide +kernel) (by decide +kernel) (by decide +kernel) (fun _ _ _ h => h) (yieldsIf_load_mid (by rfl) 26 (.tmp 16) rfl g 18 rfl #[.int .i64 x.l.s.fm.a, .int .i64 x.l.s.fm.b, .int .i64 x.l.s.fm.c, .int .i64 x.l.s.fm.d, .int .i64 x.l.s.fm.x, .int .i64 x.l.s.fm.y].toList _ (fun _ h => row_fm h.1) Tryd.underlying26 rfl (by exact info6)) (by assumption) ?_
  (try simp only [Act.put, lga, lgz, lgs, lsa, lsz, lss])
  refine wpAnyH_take (i := 12) (v := ?_) rfl (by decide +kernel) (by decide +kernel) (by decide +kernel) (fun _ _ _ h => h) (Or.inl ⟨by rfl, ?_⟩) (by assumption) ?_
  rotate_left
  · intro w2 hSw
    (try dsimp only at hSw)
    (try (obtain ⟨hs1, hs2⟩ := hSw))
    go_simp
    (try (with_reducible rfl))
  (try simp only [Act.put, lga, lgz, lgs, lsa, lsz, lss])
  refine wpAnyH_ready (rs := [13]) (by decide +kernel) (by simp) ?_
  refine AllReadyH.cons rfl (fun K hK => ?_) (AllReadyH.nil)
  (try simp only [lga, lgz, lgs])
  (go_simp)
  refine hK.out _ _ ?_ (fun hHeld => ?_)
  · exact ⟨by (have h9 := HR1.out; (repeat' (with_reducible first | assumption | (refine Row.at _ _ ?_; (simp; done)) | refine Row.alloc ?_ _ | refine Row.drew ?_ | refine Row.drewN ?_ _ | refine Row.other ?_ (by first | (simp; done) | (simp; omega) | omega) _ | refine Row.up ?_ (by assumption) | refine Row.chg ?_ (by assumption) (by first | (simp; done) | (simp; omega))))), (show Row _ g #[.int .i64 x.l.s.c.a, .int .i64 x.l.s.c.b, .int .i64 x.l.s.c.c, .int .i64 x.l.s.c.d, .int .i64 x.l.s.c.x, .int .i64 x.l.s.c.y, .int .i64 x.l.s.sp, .int .i64 x.l.s.p0, .int .i64 x.l.s.p1, .int .i64 x.l.s.p2, .int .i64 x.l.s.p3, .int .i64 x.l.s.wd, .int .i64 x.l.s.cap, .int .i64 x.l.s.jn, .int .i64 x.l.s.mt, x.l.s.dv, .int .i64 x.l.s.ph, .int .i64 x.l.s.fn, .int .i64 x.l.s.fm.a, .int .i64 x.l.s.fm.b, .int .i64 x.l.s.fm.c, .int .i64 x.l.s.fm.d, .int .i64 x.l.s.fm.x, .int .i64 x.l.s.fm.y, x.l.s.cv, .bool x.l.s.dk, .pointer (some ⟨x.l.p, 0, none⟩), .int .i64 x.most, .int .i64 x.segs, x.sv] from (by (have h9 := HR1.out; (repeat' (with_reducible first | assumption | (refine Row.at _ _ ?_; (simp; done)) | refine Row.alloc ?_ _ | refine Row.drew ?_ | refine Row.drewN ?_ _ | refine Row.other ?_ (by first | (simp; done) | (simp; omega) | omega) _ | refine Row.up ?_ (by assumption) | refine Row.chg ?_ (by assumption) (by first | (simp; done) | (simp; omega))))))).cell 17 rfl⟩
  clear hK K
  (try simp only [Act.put, lga, lgz, lgs, lsa, lsz, lss])
  refine wpAnyH_take (i := 14) (v := ?_) rfl (by decide +kernel) (by decide +kernel) (by decide +kernel) (fun _ _ _ h => h) (Or.inl ⟨by rfl, ?_⟩) (by assumption) ?_
  rotate_left
  · intro w2 hSw
    (try dsimp only at hSw)
    (try (obtain ⟨hs1, hs2⟩ := hSw))
    go_simp
    (try (with_reducible rfl))
  (try simp only [Act.put, lga, lgz, lgs, lsa, lsz, lss])
  refine wpAnyH_ready (rs := [15]) (by decide +kernel) (by simp) ?_
  refine AllReadyH.cons rfl (fun K hK => ?_) (AllReadyH.nil)
  (try simp only [lga, lgz, lgs])
  (go_simp)
  refine hK.out _ _ ?_ (fun hHeld => ?_)
  · exact ⟨by (have h9 := HR1.out; (repeat' (with_reducible first | assumption | (refine Row.at _ _ ?_; (simp; done)) | refine Row.alloc ?_ _ | refine Row.drew ?_ | refine Row.drewN ?_ _ | refine Row.other ?_ (by first | (simp; done) | (simp; omega) | omega) _ | refine Row.up ?_ (by assumption) | refine Row.chg ?_ (by assumption) (by first | (simp; done) | (simp; omega))))), (show Row _ g #[.int .i64 x.l.s.c.a, .int .i64 x.l.s.c.b, .int .i64 x.l.s.c.c, .int .i64 x.l.s.c.d, .int .i64 x.l.s.c.x, .int .i64 x.l.s.c.y, .int .i64 x.l.s.sp, .int .i64 x.l.s.p0, .int .i64 x.l.s.p1, .int .i64 x.l.s.p2, .int .i64 x.l.s.p3, .int .i64 x.l.s.wd, .int .i64 x.l.s.cap, .int .i64 x.l.s.jn, .int .i64 x.l.s.mt, x.l.s.dv, .int .i64 x.l.s.ph, .int .i64 x.l.s.fn, .int .i64 x.l.s.fm.a, .int .i64 x.l.s.fm.b, .int .i64 x.l.s.fm.c, .int .i64 x.l.s.fm.d, .int .i64 x.l.s.fm.x, .int .i64 x.l.s.fm.y, x.l.s.cv, .bool x.l.s.dk, .pointer (some ⟨x.l.p, 0, none⟩), .int .i64 x.most, .int .i64 x.segs, x.sv] from (by (have h9 := HR1.out; (repeat' (with_reducible first | assumption | (refine Row.at _ _ ?_; (simp; done)) | refine Row.alloc ?_ _ | refine Row.drew ?_ | refine Row.drewN ?_ _ | refine Row.other ?_ (by first | (simp; done) | (simp; omega) | omega) _ | refine Row.up ?_ (by assumption) | refine Row.chg ?_ (by assumption) (by first | (simp; done) | (simp; omega))))))).cell 17 rfl⟩
  clear hK K
  (try simp only [Act.put, lga, lgz, lgs, lsa, lsz, lss])
  refine wpAnyH_done (by decide +kernel) ?_ _
  generalize hWB : World.setCell (World.setCell _ _ _) _ _ = wB
  have HLB : Hid (Row wB w1.heap.size #[.int .i64 65536, .int .i64 0, .int .i64 0, .int .i64 65536, .int .i64 0, .int .i64 0, .int .i64 1, .int .i64 0, .int .i64 0, .int .i64 0, .int .i64 0, .int .i64 65536, .int .i64 0, .int .i64 0, .int .i64 655360, .slice none 0 0, .int .i64 0, .int .i64 x.l.s.fn, .int .i64 x.l.s.fm.a, .int .i64 x.l.s.fm.b, .int .i64 x.l.s.fm.c, .int .i64 x.l.s.fm.d, .int .i64 x.l.s.fm.x, .int .i64 x.l.s.fm.y, .slice none 0 0, .bool false]) := Lib.hid (by rw [← hWB]; (have h9 := HLC.out; exact (by apply cast; (case h => (repeat (first | (with_reducible first | assumption | (apply Row.at; (simp; done)) | apply Row.alloc | apply Row.drew | apply Row.drewN | apply Row.set) | ((with_reducible apply Row.other); (case hp => first | (simp; done) | (simp; omega) | omega))))); (case e => rfl))))
  have HRB : Hid (Row wB g #[.int .i64 x.l.s.c.a, .int .i64 x.l.s.c.b, .int .i64 x.l.s.c.c, .int .i64 x.l.s.c.d, .int .i64 x.l.s.c.x, .int .i64 x.l.s.c.y, .int .i64 x.l.s.sp, .int .i64 x.l.s.p0, .int .i64 x.l.s.p1, .int .i64 x.l.s.p2, .int .i64 x.l.s.p3, .int .i64 x.l.s.wd, .int .i64 x.l.s.cap, .int .i64 x.l.s.jn, .int .i64 x.l.s.mt, x.l.s.dv, .int .i64 x.l.s.ph, .int .i64 x.l.s.fn, .int .i64 x.l.s.fm.a, .int .i64 x.l.s.fm.b, .int .i64 x.l.s.fm.c, .int .i64 x.l.s.fm.d, .int .i64 x.l.s.fm.x, .int .i64 x.l.s.fm.y, x.l.s.cv, .bool x.l.s.dk, .pointer (some ⟨x.l.p, 0, none⟩), .int .i64 x.most, .int .i64 x.segs, x.sv]) := Lib.hid (by rw [← hWB]; (have h9 := HR1.out; (repeat' (with_reducible first | assumption | (refine Row.at _ _ ?_; (simp; done)) | refine Row.alloc ?_ _ | refine Row.drew ?_ | refine Row.drewN ?_ _ | refine Row.other ?_ (by first | (simp; done) | (simp; omega) | omega) _ | refine Row.up ?_ (by assumption) | refine Row.chg ?_ (by assumption) (by first | (simp; done) | (simp; omega))))))
  have HCB : Hid (Chg [w1.heap.size] wA wB) := Lib.hid (by rw [← hWB]; (repeat' (first | (with_reducible first | exact Chg.refl _ _ | assumption | refine Chg.alloc ?_ _ | refine Chg.drew ?_ | refine Chg.drewN ?_ _ | refine Chg.setCell ?_ ?_ _ | refine Chg.upc ?_ (by assumption) | refine Chg.call ?_ (by assumption) ?_) | (refine Or.inl ?_; (simp; done)) | (simp; done) | (simp; omega) | omega)))
  have HUB : Hid (Up w wB) := Lib.hid (((Chg.of_up (S := []) HUA.out).call HCB.out (fun k hk => Or.inr (by simp at hk; omega))).up)
  have lgB := HRB.out.lt
  have lBB := HLB.out.lt
  clear hWB hHeld c17 f17 c18 f18 c19 f19 c20 f20 c21 f21 c22 f22 c23 f23
  go_wp2
  refine wp_region_held_drew (S := fun w' => Row w' w1.heap.size #[.int .i64 65536, .int .i64 0, .int .i64 0, .int .i64 65536, .int .i64 0, .int .i64 0, .int .i64 1, .int .i64 0, .int .i64 0, .int .i64 0, .int .i64 0, .int .i64 65536, .int .i64 0, .int .i64 0, .int .i64 655360, .slice none 0 0, .int .i64 0, .int .i64 x.l.s.fn, .int .i64 x.l.s.fm.a, .int .i64 x.l.s.fm.b, .int .i64 x.l.s.fm.c, .int .i64 x.l.s.fm.d, .int .i64 x.l.s.fm.x, .int .i64 x.l.s.fm.y, .slice none 0 0, .bool false] ∧ w'.cell? ⟨g, 28, none⟩ = some (.int .i64 x.segs)) (by kernel_rfl) ?_ (fun hHeld => ?_)
  · exact ⟨Row.drew (by first | exact HLB.out | exact Row.drew HLB.out), HRB.out.cell 28 rfl⟩
  refine wpAnyH_take (i := 0) (v := ?_) rfl (by decide +kernel) (by decide +kernel) (by decide +kernel) (fun _ _ _ h => h) (Or.inl ⟨by rfl, ?_⟩) (by assumption) ?_
  rotate_left
  · intro w2 hSw
    (try dsimp only at hSw)
    (try (obtain ⟨hs1, hs2⟩ := hSw))
    go_simp
    (try (with_reducible rfl))
  (try simp only [Act.put, lga, lgz, lgs, lsa, lsz, lss])
  refine wpAnyH_take (i := 1) rfl (by decide +kernel) (by decide +kernel) (by decide +kernel) (fun _ _ _ h => h) (yieldsIf_load_mid (by rfl) 41 (.tmp 2) rfl w1.heap.size 0 rfl #[.int .i64 65536, .int .i64 0, .int .i64 0, .int .i64 65536, .int .i64 0, .int .i64 0, .int .i64 1, .int .i64 0, .int .i64 0, .int .i64 0, .int .i64 0, .int .i64 65536, .int .i64 0, .int .i64 0, .int .i64 655360, .slice none 0 0, .int .i64 0, .int .i64 x.l.s.fn, .int .i64 x.l.s.fm.a, .int .i64 x.l.s.fm.b, .int .i64 x.l.s.fm.c, .int .i64 x.l.s.fm.d, .int .i64 x.l.s.fm.x, .int .i64 x.l.s.fm.y, .slice none 0 0, .bool false].toList _ (fun _ h => rng_all h.1) Tryd.underlying41 rfl (by exact Gs.infoSt)) (by assumption) ?_
  (try simp only [Act.put, lga, lgz, lgs, lsa, lsz, lss])
  refine wpAnyH_take (i := 2) (v := ?_) rfl (by decide +kernel) (by decide +kernel) (by decide +kernel) (fun _ _ _ h => h) (Or.inl ⟨by rfl, ?_⟩) (by assumption) ?_
  rotate_left
  · intro w2 hSw
    (try dsimp only at hSw)
    (try (obtain ⟨hs1, hs2⟩ := hSw))
    go_simp
    (try (with_reducible rfl))
  (try simp only [Act.put, lga, lgz, lgs, lsa, lsz, lss])
  refine wpAnyH_take (i := 3) (v := ?_) rfl (by decide +kernel) (by decide +kernel) (by decide +kernel) (fun _ _ _ h => h) (Or.inl ⟨by rfl, ?_⟩) (by assumption) ?_
  rotate_left
  · intro w2 hSw
    (try dsimp only at hSw)
    (try (obtain ⟨hs1, hs2⟩ := hSw))
    go_simp
    (try (with_reducible rfl))
  (try simp only [Act.put, lga, lgz, lgs, lsa, lsz, lss])
  refine wpAnyH_take (i := 4) (v := ?_) rfl (by decide +kernel) (by decide +kernel) (by decide +kernel) (fun _ _ _ h => h) (Or.inl ⟨by rfl, ?_⟩) (by assumption) ?_
  rotate_left
  · intro w2 hSw
    (try dsimp only at hSw)
    (try (obtain ⟨hs1, hs2⟩ := hSw))
    go_simp
    (try (with_reducible rfl))
  (try simp only [Act.put, lga, lgz, lgs, lsa, lsz, lss])
  refine wpAnyH_take (i := 5) (v := ?_) rfl (by decide +kernel) (by decide +kernel) (by decide +kernel) (fun _ _ _ h => h) (Or.inl ⟨by rfl, ?_⟩) (by assumption) ?_
  rotate_left
  · intro w2 hSw
    (try dsimp only at hSw)
    (try (obtain ⟨hs1, hs2⟩ := hSw))
    go_simp
    (try (with_reducible rfl))
  (try simp only [Act.put, lga, lgz, lgs, lsa, lsz, lss])
  refine wpAnyH_ready (rs := [6]) (by decide +kernel) (by simp) ?_
  refine AllReadyH.cons rfl (fun K hK => ?_) (AllReadyH.nil)
  (try simp only [lga, lgz, lgs])
  (go_simp; go_at_call 21; (with_reducible refine (pnew x.segs _).mono ?_); rintro E w4 ⟨p, rfl, hp0, hu4, hp4⟩; have z4 := hu4.size; (try simp at z4); (try simp at hp0); have HP4 := Lib.hid hp4; have HU4 : Hid (Up w w4) := Lib.hid (by have := HUB.out; (repeat' (first | (with_reducible first | exact Up.refl _ | assumption | refine Up.alloc ?_ _ | refine Up.drew ?_ | refine Up.drewN ?_ _ | refine Up.setCell ?_ ?_ _ | refine Up.call ?_ (by assumption)) | go_size))); have HL4 : Hid (Row w4 w1.heap.size #[.int .i64 65536, .int .i64 0, .int .i64 0, .int .i64 65536, .int .i64 0, .int .i64 0, .int .i64 1, .int .i64 0, .int .i64 0, .int .i64 0, .int .i64 0, .int .i64 65536, .int .i64 0, .int .i64 0, .int .i64 655360, .slice none 0 0, .int .i64 0, .int .i64 x.l.s.fn, .int .i64 x.l.s.fm.a, .int .i64 x.l.s.fm.b, .int .i64 x.l.s.fm.c, .int .i64 x.l.s.fm.d, .int .i64 x.l.s.fm.x, .int .i64 x.l.s.fm.y, .slice none 0 0, .bool false]) := Lib.hid (Row.up (show Row _ w1.heap.size #[.int .i64 65536, .int .i64 0, .int .i64 0, .int .i64 65536, .int .i64 0, .int .i64 0, .int .i64 1, .int .i64 0, .int .i64 0, .int .i64 0, .int .i64 0, .int .i64 65536, .int .i64 0, .int .i64 0, .int .i64 655360, .slice none 0 0, .int .i64 0, .int .i64 x.l.s.fn, .int .i64 x.l.s.fm.a, .int .i64 x.l.s.fm.b, .int .i64 x.l.s.fm.c, .int .i64 x.l.s.fm.d, .int .i64 x.l.s.fm.x, .int .i64 x.l.s.fm.y, .slice none 0 0, .bool false] from (by have h9 := HLB.out; (repeat' (with_reducible first | assumption | (refine Row.at _ _ ?_; (simp; done)) | refine Row.alloc ?_ _ | refine Row.drew ?_ | refine Row.drewN ?_ _ | refine Row.other ?_ (by first | (simp; done) | (simp; omega) | omega) _ | refine Row.up ?_ (by assumption) | refine Row.chg ?_ (by assumption) (by first | (simp; done) | (simp; omega)))))) hu4); have HR4 : Hid (Row w4 g #[.int .i64 x.l.s.c.a, .int .i64 x.l.s.c.b, .int .i64 x.l.s.c.c, .int .i64 x.l.s.c.d, .int .i64 x.l.s.c.x, .int .i64 x.l.s.c.y, .int .i64 x.l.s.sp, .int .i64 x.l.s.p0, .int .i64 x.l.s.p1, .int .i64 x.l.s.p2, .int .i64 x.l.s.p3, .int .i64 x.l.s.wd, .int .i64 x.l.s.cap, .int .i64 x.l.s.jn, .int .i64 x.l.s.mt, x.l.s.dv, .int .i64 x.l.s.ph, .int .i64 x.l.s.fn, .int .i64 x.l.s.fm.a, .int .i64 x.l.s.fm.b, .int .i64 x.l.s.fm.c, .int .i64 x.l.s.fm.d, .int .i64 x.l.s.fm.x, .int .i64 x.l.s.fm.y, x.l.s.cv, .bool x.l.s.dk, .pointer (some ⟨x.l.p, 0, none⟩), .int .i64 x.most, .int .i64 x.segs, x.sv]) := Lib.hid (Row.up (show Row _ g #[.int .i64 x.l.s.c.a, .int .i64 x.l.s.c.b, .int .i64 x.l.s.c.c, .int .i64 x.l.s.c.d, .int .i64 x.l.s.c.x, .int .i64 x.l.s.c.y, .int .i64 x.l.s.sp, .int .i64 x.l.s.p0, .int .i64 x.l.s.p1, .int .i64 x.l.s.p2, .int .i64 x.l.s.p3, .int .i64 x.l.s.wd, .int .i64 x.l.s.cap, .int .i64 x.l.s.jn, .int .i64 x.l.s.mt, x.l.s.dv, .int .i64 x.l.s.ph, .int .i64 x.l.s.fn, .int .i64 x.l.s.fm.a, .int .i64 x.l.s.fm.b, .int .i64 x.l.s.fm.c, .int .i64 x.l.s.fm.d, .int .i64 x.l.s.fm.x, .int .i64 x.l.s.fm.y, x.l.s.cv, .bool x.l.s.dk, .pointer (some ⟨x.l.p, 0, none⟩), .int .i64 x.most, .int .i64 x.segs, x.sv] from (by have h9 := HRB.out; (repeat' (with_reducible first | assumption | (refine Row.at _ _ ?_; (simp; done)) | refine Row.alloc ?_ _ | refine Row.drew ?_ | refine Row.drewN ?_ _ | refine Row.other ?_ (by first | (simp; done) | (simp; omega) | omega) _ | refine Row.up ?_ (by assumption) | refine Row.chg ?_ (by assumption) (by first | (simp; done) | (simp; omega)))))) hu4); clear hp4; (try dsimp only))
  refine hK.out _ _ ?_ (fun hHeld => ?_)
  · exact ⟨HL4.out, HR4.out.cell 28 rfl⟩
  clear hK K
  (try simp only [Act.put, lga, lgz, lgs, lsa, lsz, lss])
  refine wpAnyH_take (i := 7) (v := ?_) rfl (by decide +kernel) (by decide +kernel) (by decide +kernel) (fun _ _ _ h => h) (Or.inl ⟨by rfl, ?_⟩) (by assumption) ?_
  rotate_left
  · intro w2 hSw
    (try dsimp only at hSw)
    (try (obtain ⟨hs1, hs2⟩ := hSw))
    go_simp
    (try (with_reducible rfl))
  (try simp only [Act.put, lga, lgz, lgs, lsa, lsz, lss])
  refine wpAnyH_take (i := 8) (v := ?_) rfl (by decide +kernel) (by decide +kernel) (by decide +kernel) (fun _ _ _ h => h) (Or.inl ⟨by rfl, ?_⟩) (by assumption) ?_
  rotate_left
  · intro w2 hSw
    (try dsimp only at hSw)
    (try (obtain ⟨hs1, hs2⟩ := hSw))
    go_simp
    (try (with_reducible rfl))
  (try simp only [Act.put, lga, lgz, lgs, lsa, lsz, lss])
  refine wpAnyH_take (i := 9) (v := ?_) rfl (by decide +kernel) (by decide +kernel) (by decide +kernel) (fun _ _ _ h => h) (Or.inl ⟨by rfl, ?_⟩) (by assumption) ?_
  rotate_left
  · intro w2 hSw
    (try dsimp only at hSw)
    (try (obtain ⟨hs1, hs2⟩ := hSw))
    go_simp
    (try (with_reducible rfl))
  (try simp only [Act.put, lga, lgz, lgs, lsa, lsz, lss])
  refine wpAnyH_ready (rs := [10]) (by decide +kernel) (by simp) ?_
  refine AllReadyH.cons rfl (fun K hK => ?_) (AllReadyH.nil)
  (try simp only [lga, lgz, lgs])
  (rw [if_pos (by rfl)]; refine wp_store_part 67 (.tmp 29) (.tmp 27) rfl g [.int .i64 65536, .int .i64 0, .int .i64 0, .int .i64 65536, .int .i64 0, .int .i64 0, .int .i64 1, .int .i64 0, .int .i64 0, .int .i64 0, .int .i64 0, .int .i64 65536, .int .i64 0, .int .i64 0, .int .i64 655360, .slice none 0 0, .int .i64 0, .int .i64 x.l.s.fn, .int .i64 x.l.s.fm.a, .int .i64 x.l.s.fm.b, .int .i64 x.l.s.fm.c, .int .i64 x.l.s.fm.d, .int .i64 x.l.s.fm.x, .int .i64 x.l.s.fm.y, .slice none 0 0, .bool false, .pointer (some ⟨p, 0, none⟩)] x.l.cells [Value.int .i64 x.most, Value.int .i64 x.segs, x.sv] rfl rfl HR4.out rfl infoLv rfl (by simp [Value.oneCell']) ?_); intro w5 hr5 hc5; have HL5 : Row w5 w1.heap.size #[.int .i64 65536, .int .i64 0, .int .i64 0, .int .i64 65536, .int .i64 0, .int .i64 0, .int .i64 1, .int .i64 0, .int .i64 0, .int .i64 0, .int .i64 0, .int .i64 65536, .int .i64 0, .int .i64 0, .int .i64 655360, .slice none 0 0, .int .i64 0, .int .i64 x.l.s.fn, .int .i64 x.l.s.fm.a, .int .i64 x.l.s.fm.b, .int .i64 x.l.s.fm.c, .int .i64 x.l.s.fm.d, .int .i64 x.l.s.fm.x, .int .i64 x.l.s.fm.y, .slice none 0 0, .bool false] := Row.chg HL4.out hc5 (by simp; omega); have z5 := hc5.size
  refine hK.out _ _ ?_ (fun hHeld => ?_)
  · exact ⟨HL5, hr5.cell 28 rfl⟩
  clear hK K
  (try simp only [Act.put, lga, lgz, lgs, lsa, lsz, lss])
  refine wpAnyH_done (by decide +kernel) ?_ _
  go_wp2
  go_returns
  refine ⟨rfl, p, To.newL (l := ⟨initS x.l.s.fn x.l.s.fm, p, .slice none 0 0, ⟨x.segs, [], Z, Z⟩⟩) HG.out HU4.out ⟨initS_o _ _ _, HP4.out, ?_⟩ (fun b hb => ?_) hr5 hc5⟩
  · show [p].Nodup
    simp
  · have e : b = p := by
      have h0 : b ∈ [p] := hb
      simpa using h0
    have h1 := HP4.out.row.lt
    have h2 := HUB.out.size
    omega

end Go.Proofs.YtoflafbhfoncmaaDoor.Gt
end

section
namespace Go.Proofs.YtoflafbhfoncmaaDoor.Gt
open Go.ChangeShapes Go.WideShapes Go.ChangeAt Go.RowKit
open Go.Proofs.YtoflafbhfoncmaaDoor.FixM (fits)
open Go.Proofs.YtoflafbhfoncmaaDoor.MatM (M6)
open Go.Proofs.YtoflafbhfoncmaaDoor.PathM (Seg St Z segCells)
open Go.Proofs.YtoflafbhfoncmaaDoor.Path (own own_mem own_of PathIs Segs)
open Go.Proofs.YtoflafbhfoncmaaDoor.Pt (Clip clipCells Src)
set_option linter.unusedVariables false
set_option linter.unusedSimpArgs false

open Go.Proofs.YtoflafbhfoncmaaDoor.Pt (raw_up info_parts3 infoC2 own_nodup clipCells_append)
/-- the states behind a Clip -/
def clipped (x : X) (s1 : S) (v1 : Value) (l : List Seg) (eo : Bool) (g5 n c5 : Nat) : X := ⟨⟨{ x.l.s with cv := .slice (some ⟨g5, 0, none⟩) (n + 1) c5, cl := s1.cl ++ [⟨v1, l, eo⟩] }, x.l.p, x.l.pv, x.l.t⟩, x.most, x.segs, x.sv, x.saved⟩
theorem To.clip {w w2 w3 w4 w5 : World} {g g5 c5 n : Nat} {x : X} {s1 : S} {v1 : Value} {l : List Seg} {eo : Bool} (h : G w g x) (hu1 : Up w w2) (hv : Segs w2 v1 l) (hvf : ∀ b ∈ own v1, w.heap.size ≤ b ∧ b < w2.heap.size) (hu2 : Up w2 w3) (ho : SO w3 s1) (hf : ∀ b ∈ s1.bl, w2.heap.size ≤ b ∧ b < w3.heap.size) (hu3 : Up w3 w4) (hC : Chg (own s1.cv) w4 w5)
    (hown : w5.ownsRow 0 57 2 (.slice (some ⟨g5, 0, none⟩) (n + 1) c5) (n + 1) (clipCells s1.cl ++ [v1, .bool eo])) (hn : s1.cl.length = n) (hat : s1.cv.ownBlock = some g5 ∨ g5 = w4.heap.size) :
    To w (w5.setCell ⟨g, 24, none⟩ (.slice (some ⟨g5, 0, none⟩) (n + 1) c5)) g x (clipped x s1 v1 l eo g5 n c5) := by
  have z1 := hu1.size
  have z2 := hu2.size
  have z3 := hu3.size
  have zc := hC.size
  have hlt := h.lt
  have hgb : g < w.heap.size := h.row.lt
  obtain ⟨n1, n2⟩ := List.nodup_cons.1 h.nd
  obtain ⟨n3, n4, n5⟩ := List.nodup_append.1 n2
  obtain ⟨m1, m2, m3⟩ := List.nodup_append.1 ho.nd
  obtain ⟨m4, m5, m6⟩ := List.nodup_append.1 m2
  have b1 : ∀ b ∈ own s1.cv, w2.heap.size ≤ b ∧ b < w3.heap.size := fun b hb => hf b (by simp [S.bl, hb])
  have b2 : ∀ b ∈ s1.cl.flatMap (fun c => own c.v), w2.heap.size ≤ b ∧ b < w3.heap.size := fun b hb => hf b (List.mem_append_right _ (List.mem_append_right _ hb))
  have h5 : w2.heap.size ≤ g5 := by
    rcases hat with h1 | h1
    · exact (b1 g5 (own_mem h1)).1
    · omega
  have hcx : Chg (g :: own s1.cv) w (w5.setCell ⟨g, 24, none⟩ (.slice (some ⟨g5, 0, none⟩) (n + 1) c5)) := by
    have h1 : Chg (g :: own s1.cv) w w4 := Chg.of_up (Up.call (Up.call hu1 hu2) hu3)
    exact (h1.call hC (fun k hk => Or.inl (List.mem_cons_of_mem _ hk))).setCell (Or.inl (by simp)) _
  have hc2 : Chg (g :: own s1.cv) w2 (w5.setCell ⟨g, 24, none⟩ (.slice (some ⟨g5, 0, none⟩) (n + 1) c5)) := by
    have h1 : Chg (g :: own s1.cv) w2 w4 := Chg.of_up (Up.call hu2 hu3)
    exact (h1.call hC (fun k hk => Or.inl (List.mem_cons_of_mem _ hk))).setCell (Or.inl (by simp)) _
  have hc3 : Chg (g :: own s1.cv) w3 (w5.setCell ⟨g, 24, none⟩ (.slice (some ⟨g5, 0, none⟩) (n + 1) c5)) := by
    have h1 : Chg (g :: own s1.cv) w3 w4 := Chg.of_up hu3
    exact (h1.call hC (fun k hk => Or.inl (List.mem_cons_of_mem _ hk))).setCell (Or.inl (by simp)) _
  have a0 : ∀ b ∈ x.l.bl ++ x.low, b ∉ g :: own s1.cv := fun b hb h2 => by
    rcases List.mem_cons.1 h2 with h3 | h3
    · rw [h3] at hb; exact n1 hb
    · have := hlt b (List.mem_cons_of_mem _ hb); have := (b1 b h3).1; omega
  have hsub : x.l.p :: (own x.l.pv ++ own x.l.s.dv) ⊆ x.l.bl := fun b hb => by
    simp only [Lv.bl, S.bl, List.mem_cons, List.mem_append] at hb ⊢
    rcases hb with h1 | h1 | h1
    · exact Or.inl h1
    · exact Or.inr (Or.inl h1)
    · exact Or.inr (Or.inr (Or.inl h1))
  have hxb : ∀ b ∈ x.l.bl, b < w.heap.size := fun b hb => hlt b (by simp [X.bl, hb])
  have e5 : own (.slice (some ⟨g5, 0, none⟩) (n + 1) c5) = [g5] := rfl
  -- the new clips' blocks
  have hnew : ([g5] ++ ((s1.cl.flatMap (fun c => own c.v)) ++ own v1)).Nodup ∧ ∀ b ∈ [g5] ++ ((s1.cl.flatMap (fun c => own c.v)) ++ own v1), w.heap.size ≤ b := by
    refine ⟨List.nodup_append.2 ⟨by simp, List.nodup_append.2 ⟨m5, own_nodup _, fun a ha b hb e => ?_⟩, fun a ha b hb e => ?_⟩, fun b hb => ?_⟩
    · have := (b2 a ha).1; have := (hvf b hb).2; omega
    · rw [List.mem_singleton] at ha
      subst ha e
      rcases List.mem_append.1 hb with h1 | h1
      · rcases hat with h2 | h2
        · exact m6 _ (own_mem h2) _ h1 rfl
        · have := (b2 _ h1).2; omega
      · have := (hvf _ h1).2; omega
    · rcases List.mem_append.1 hb with h1 | h1
      · rw [List.mem_singleton] at h1; omega
      rcases List.mem_append.1 h1 with h2 | h2
      · have := (b2 b h2).1; omega
      · exact (hvf b h2).1
  have hbl : (clipped x s1 v1 l eo g5 n c5).l.bl = (x.l.p :: (own x.l.pv ++ own x.l.s.dv)) ++ ([g5] ++ ((s1.cl.flatMap (fun c => own c.v)) ++ own v1)) := by
    simp [clipped, Lv.bl, S.bl, e5, List.flatMap_append]
  have hndl : (clipped x s1 v1 l eo g5 n c5).l.bl.Nodup := by
    rw [hbl]
    refine List.nodup_append.2 ⟨?_, hnew.1, fun a ha b hb e => by have := hxb a (hsub ha); have := hnew.2 b hb; omega⟩
    have hn3 := n3
    simp only [Lv.bl, S.bl] at hn3
    rw [← List.append_assoc] at hn3
    exact (List.nodup_append.1 (show ((x.l.p :: (own x.l.pv ++ own x.l.s.dv)) ++ (own x.l.s.cv ++ x.l.s.cl.flatMap (fun c => own c.v))).Nodup from hn3)).1
  have hr5 : Row w5 g x.cells.toArray := (((h.row.up hu1).up hu2).up hu3).chg hC (fun h2 => by have := (b1 g h2).1; omega)
  have hrow : Row (w5.setCell ⟨g, 24, none⟩ (.slice (some ⟨g5, 0, none⟩) (n + 1) c5)) g (clipped x s1 v1 l eo g5 n c5).cells.toArray := cast (Row.set hr5 24 _) rfl
  have hd : ∀ b ∈ own x.l.s.dv, b ∈ x.l.bl := fun b hb => hsub (List.mem_cons_of_mem _ (List.mem_append_right _ hb))
  refine ⟨⟨hrow, ⟨⟨?_, h.cur.s.dw, ?_, ?_, ?_⟩, ?_, hndl⟩, ?_, ?_, ?_⟩, (Chg.refl _ w).call hcx (fun b hb => ?_), ?_⟩
  · exact owned_chg h.cur.s.dv hcx (fun b hb => a0 b (List.mem_append_left _ (hd b (own_mem hb))))
  · show World.ownsRow _ 0 _ 2 (.slice (some ⟨g5, 0, none⟩) (n + 1) c5) (s1.cl ++ [(⟨v1, l, eo⟩ : Clip)]).length (clipCells (s1.cl ++ [⟨v1, l, eo⟩]))
    have e : (s1.cl ++ [(⟨v1, l, eo⟩ : Clip)]).length = n + 1 := by simp [hn]
    rw [e, clipCells_append]
    exact owned_chg hown ((Chg.refl [g] w5).setCell (Or.inl (by simp)) _) (fun b hb => by
      simp only [Value.ownBlock, Option.some.injEq] at hb
      subst hb
      simp
      omega)
  · intro c hc
    rcases List.mem_append.1 (show c ∈ s1.cl ++ [(⟨v1, l, eo⟩ : Clip)] from hc) with h1 | h1
    · refine owned_chg (ho.cs c h1) hc3 (fun b hb h2 => ?_)
      have hm : b ∈ s1.cl.flatMap (fun c => own c.v) := List.mem_flatMap.2 ⟨c, h1, own_mem hb⟩
      rcases List.mem_cons.1 h2 with h3 | h3
      · have := (b2 b hm).1; omega
      · exact m6 b h3 b hm rfl
    · rw [List.mem_singleton] at h1
      subst h1
      refine owned_chg hv hc2 (fun b hb h2 => ?_)
      have := hvf b (own_mem hb)
      rcases List.mem_cons.1 h2 with h3 | h3
      · omega
      · have := (b1 b h3).1; omega
  · rw [hbl] at hndl
    have : (own x.l.s.dv ++ ([g5] ++ ((s1.cl.flatMap (fun c => own c.v)) ++ own v1))).Nodup := by
      have h1 : ((own x.l.pv ++ own x.l.s.dv) ++ ([g5] ++ ((s1.cl.flatMap (fun c => own c.v)) ++ own v1))).Nodup := (List.nodup_cons.1 hndl).2
      rw [List.append_assoc] at h1
      exact (List.nodup_append.1 h1).2.1
    simpa [clipped, S.bl, e5, List.flatMap_append] using this
  · exact h.cur.p.chg hcx (a0 _ (List.mem_append_left _ (hsub (List.mem_cons.2 (Or.inl rfl))))) (fun b hb => a0 b (List.mem_append_left _ (hsub (List.mem_cons_of_mem _ (List.mem_append_left _ (own_mem hb))))))
  · exact owned_chg h.own hcx (fun b hb => a0 b (List.mem_append_right _ (List.mem_append_left _ (own_mem hb))))
  · exact fun l2 hl2 => (h.svs l2 hl2).chg hcx (fun b hb => a0 b (List.mem_append_right _ (by simp only [X.low, List.mem_append, List.mem_flatMap]; exact Or.inr ⟨l2, hl2, hb⟩)))
  · refine List.nodup_cons.2 ⟨fun hm => ?_, List.nodup_append.2 ⟨hndl, n4, fun a ha b hb e => ?_⟩⟩
    · rcases List.mem_append.1 hm with h1 | h1
      · rw [hbl] at h1
        rcases List.mem_append.1 h1 with h2 | h2
        · exact n1 (List.mem_append_left _ (hsub h2))
        · have := hnew.2 g h2; omega
      · exact n1 (List.mem_append_right _ h1)
    · rw [hbl] at ha
      rcases List.mem_append.1 ha with h2 | h2
      · exact n5 a (hsub h2) b hb e
      · have := hnew.2 a h2
        have := hlt b (List.mem_cons_of_mem _ (List.mem_append_right _ hb))
        omega
  · rcases List.mem_cons.1 hb with h1 | h1
    · exact Or.inl (by rw [h1]; simp [X.bl])
    · exact Or.inr (by have := (b1 b h1).1; omega)
  · intro b hb
    rcases List.mem_cons.1 hb with h1 | h1
    · exact Or.inl (by rw [h1]; simp [X.bl])
    rcases List.mem_append.1 h1 with h2 | h2
    · rw [hbl] at h2
      rcases List.mem_append.1 h2 with h3 | h3
      · exact Or.inl (List.mem_cons_of_mem _ (List.mem_append_left _ (hsub h3)))
      · exact Or.inr (hnew.2 b h3)
    · exact Or.inl (List.mem_cons_of_mem _ (List.mem_append_right _ h2))

theorem field_cv {a0 a1 a2 a3 a4 a5 a6 a7 a8 a9 a10 a11 a12 a13 a14 a15 a16 a17 a18 a19 a20 a21 a22 a23 a24 a25 : Value} (W : World) : (Instr.field 41 (.agg #[a0, a1, a2, a3, a4, a5, a6, a7, a8, a9, a10, a11, a12, a13, a14, a15, a16, a17, a18, a19, a20, a21, a22, a23, a24, a25]) 5).run Tryd.prog W = .ok a24 W := by kernel_rfl
set_option maxRecDepth 8000 in
set_option maxHeartbeats 1000000 in
theorem clip_full (g : Nat) (x : X) (ca : Option Addr) (n cc : Nat) (eo : Bool) (w : World) (h : G w g x) (hcv : x.l.s.cv = .slice ca n cc) (hn : 16 ≤ n) :
    Calls Tryd.prog 33 #[.pointer (some ⟨g, 0, none⟩), .bool eo] w fun E w' => E = .returned (.int .i64 9) ∧ w = w' := by
  have HG := Lib.hid h
  have HR : Hid (Row w g #[.int .i64 x.l.s.c.a, .int .i64 x.l.s.c.b, .int .i64 x.l.s.c.c, .int .i64 x.l.s.c.d, .int .i64 x.l.s.c.x, .int .i64 x.l.s.c.y, .int .i64 x.l.s.sp, .int .i64 x.l.s.p0, .int .i64 x.l.s.p1, .int .i64 x.l.s.p2, .int .i64 x.l.s.p3, .int .i64 x.l.s.wd, .int .i64 x.l.s.cap, .int .i64 x.l.s.jn, .int .i64 x.l.s.mt, x.l.s.dv, .int .i64 x.l.s.ph, .int .i64 x.l.s.fn, .int .i64 x.l.s.fm.a, .int .i64 x.l.s.fm.b, .int .i64 x.l.s.fm.c, .int .i64 x.l.s.fm.d, .int .i64 x.l.s.fm.x, .int .i64 x.l.s.fm.y, x.l.s.cv, .bool x.l.s.dk, .pointer (some ⟨x.l.p, 0, none⟩), .int .i64 x.most, .int .i64 x.segs, x.sv]) := Lib.hid h.row
  have lt := h.row.lt
  have q24 : w.cell? ⟨g, 24, none⟩ = some (.slice ca n cc) := by rw [← hcv]; exact h.row.cell 24 rfl
  have q26 : w.cell? ⟨g, 26, none⟩ = some (.pointer (some ⟨x.l.p, 0, none⟩)) := h.row.cell 26 rfl
  have hd : decide (16 ≤ n) = true := decide_eq_true hn
  clear h hcv
  go_enter Tryd.func33, Tryd.ntmps33
  go_wp2_with (go_at_call 45; ((with_reducible refine (check_nil _ _).mono ?_); rintro E w0 ⟨rfl, rfl⟩))
  go_ret
  exact ⟨rfl, rfl⟩
set_option maxRecDepth 8000 in
set_option maxHeartbeats 1000000 in
theorem clip_dark (g : Nat) (x : X) (ca : Option Addr) (n cc : Nat) (eo : Bool) (w : World) (h : G w g x) (hcv : x.l.s.cv = .slice ca n cc) (hn : ¬ 16 ≤ n) (ht : x.l.t.l = []) :
    Calls Tryd.prog 33 #[.pointer (some ⟨g, 0, none⟩), .bool eo] w fun E w' => E = .returned (.int .i64 0) ∧ Row w' g #[.int .i64 x.l.s.c.a, .int .i64 x.l.s.c.b, .int .i64 x.l.s.c.c, .int .i64 x.l.s.c.d, .int .i64 x.l.s.c.x, .int .i64 x.l.s.c.y, .int .i64 x.l.s.sp, .int .i64 x.l.s.p0, .int .i64 x.l.s.p1, .int .i64 x.l.s.p2, .int .i64 x.l.s.p3, .int .i64 x.l.s.wd, .int .i64 x.l.s.cap, .int .i64 x.l.s.jn, .int .i64 x.l.s.mt, x.l.s.dv, .int .i64 x.l.s.ph, .int .i64 x.l.s.fn, .int .i64 x.l.s.fm.a, .int .i64 x.l.s.fm.b, .int .i64 x.l.s.fm.c, .int .i64 x.l.s.fm.d, .int .i64 x.l.s.fm.x, .int .i64 x.l.s.fm.y, x.l.s.cv, .bool true, .pointer (some ⟨x.l.p, 0, none⟩), .int .i64 x.most, .int .i64 x.segs, x.sv] ∧ Chg [g] w w' := by
  have HG := Lib.hid h
  have HR : Hid (Row w g #[.int .i64 x.l.s.c.a, .int .i64 x.l.s.c.b, .int .i64 x.l.s.c.c, .int .i64 x.l.s.c.d, .int .i64 x.l.s.c.x, .int .i64 x.l.s.c.y, .int .i64 x.l.s.sp, .int .i64 x.l.s.p0, .int .i64 x.l.s.p1, .int .i64 x.l.s.p2, .int .i64 x.l.s.p3, .int .i64 x.l.s.wd, .int .i64 x.l.s.cap, .int .i64 x.l.s.jn, .int .i64 x.l.s.mt, x.l.s.dv, .int .i64 x.l.s.ph, .int .i64 x.l.s.fn, .int .i64 x.l.s.fm.a, .int .i64 x.l.s.fm.b, .int .i64 x.l.s.fm.c, .int .i64 x.l.s.fm.d, .int .i64 x.l.s.fm.x, .int .i64 x.l.s.fm.y, x.l.s.cv, .bool x.l.s.dk, .pointer (some ⟨x.l.p, 0, none⟩), .int .i64 x.most, .int .i64 x.segs, x.sv]) := Lib.hid h.row
  have lt := h.row.lt
  have q24 : w.cell? ⟨g, 24, none⟩ = some (.slice ca n cc) := by rw [← hcv]; exact h.row.cell 24 rfl
  have q26 : w.cell? ⟨g, 26, none⟩ = some (.pointer (some ⟨x.l.p, 0, none⟩)) := h.row.cell 26 rfl
  have hd : decide (16 ≤ n) = false := decide_eq_false hn
  have HTN : Hid (x.l.t.l.length = 0) := Lib.hid (by rw [ht]; rfl)
  clear h hcv ht
  go_enter Tryd.func33, Tryd.ntmps33
  go_wp2_with (first
    | (go_at_call 45; ((with_reducible refine (check_nil _ _).mono ?_); rintro E w0 ⟨rfl, rfl⟩))
    | (go_at_call 11; ((with_reducible refine (Path.segments_calls x.l.p x.l.pv x.l.t _ HG.out.cur.p).mono ?_); rintro E w2 ⟨v1, rfl, hs2, hu2, hv2⟩; obtain ⟨a1, c1, rfl⟩ := owned_val hs2; rw [HTN.out] at hs2 hv2 ⊢; have z2 := hu2.size; have HS2 := Lib.hid hs2; have HV2 := Lib.hid hv2; have HU2 := Lib.hid hu2; have RG2 : Row w2 g #[.int .i64 x.l.s.c.a, .int .i64 x.l.s.c.b, .int .i64 x.l.s.c.c, .int .i64 x.l.s.c.d, .int .i64 x.l.s.c.x, .int .i64 x.l.s.c.y, .int .i64 x.l.s.sp, .int .i64 x.l.s.p0, .int .i64 x.l.s.p1, .int .i64 x.l.s.p2, .int .i64 x.l.s.p3, .int .i64 x.l.s.wd, .int .i64 x.l.s.cap, .int .i64 x.l.s.jn, .int .i64 x.l.s.mt, x.l.s.dv, .int .i64 x.l.s.ph, .int .i64 x.l.s.fn, .int .i64 x.l.s.fm.a, .int .i64 x.l.s.fm.b, .int .i64 x.l.s.fm.c, .int .i64 x.l.s.fm.d, .int .i64 x.l.s.fm.x, .int .i64 x.l.s.fm.y, x.l.s.cv, .bool x.l.s.dk, .pointer (some ⟨x.l.p, 0, none⟩), .int .i64 x.most, .int .i64 x.segs, x.sv] := Row.up HR.out hu2; have lt2 := RG2.lt; have d25 := RG2.cell 25 rfl; have e25 := RG2.free 25; have d24 := RG2.cell 24 rfl; have e24 := RG2.free 24; clear hs2 hv2)))
  go_ret
  exact ⟨rfl, (by apply cast; (case h => (repeat (first | (with_reducible first | assumption | (apply Row.at; (simp; done)) | apply Row.alloc | apply Row.drew | apply Row.drewN | apply Row.set) | ((with_reducible apply Row.other); (case hp => first | (simp; done) | (simp; omega) | omega))))); (case e => rfl)), by (repeat' (first | (with_reducible first | exact Chg.refl _ _ | assumption | refine Chg.alloc ?_ _ | refine Chg.drew ?_ | refine Chg.drewN ?_ _ | refine Chg.setCell ?_ ?_ _ | refine Chg.upc ?_ (by assumption) | refine Chg.call ?_ (by assumption) ?_) | (refine Or.inl ?_; (simp; done)) | (simp; done) | (simp; omega) | omega))⟩
set_option maxRecDepth 8000 in
set_option maxHeartbeats 2000000 in
theorem clip_ok (g : Nat) (x : X) (ca : Option Addr) (n cc N : Nat) (eo : Bool) (w : World) (h : G w g x) (hcv : x.l.s.cv = .slice ca n cc) (hcn : x.l.s.cl.length = n) (hn : ¬ 16 ≤ n) (ht : x.l.t.l.length = N) (h0 : 0 < N) (hl : Le x.l.s.dat) :
    Calls Tryd.prog 33 #[.pointer (some ⟨g, 0, none⟩), .bool eo] w fun E w' => E = .returned (.int .i64 0) ∧ ∃ s1 v1 g5 c5, s1.dat = x.l.s.dat ∧ To w w' g x (clipped x s1 v1 x.l.t.l eo g5 n c5) := by
  obtain ⟨i0, hi, hz0, hz1, hz2⟩ := info_parts3 infoC2
  have HG := Lib.hid h
  have HR : Hid (Row w g #[.int .i64 x.l.s.c.a, .int .i64 x.l.s.c.b, .int .i64 x.l.s.c.c, .int .i64 x.l.s.c.d, .int .i64 x.l.s.c.x, .int .i64 x.l.s.c.y, .int .i64 x.l.s.sp, .int .i64 x.l.s.p0, .int .i64 x.l.s.p1, .int .i64 x.l.s.p2, .int .i64 x.l.s.p3, .int .i64 x.l.s.wd, .int .i64 x.l.s.cap, .int .i64 x.l.s.jn, .int .i64 x.l.s.mt, x.l.s.dv, .int .i64 x.l.s.ph, .int .i64 x.l.s.fn, .int .i64 x.l.s.fm.a, .int .i64 x.l.s.fm.b, .int .i64 x.l.s.fm.c, .int .i64 x.l.s.fm.d, .int .i64 x.l.s.fm.x, .int .i64 x.l.s.fm.y, x.l.s.cv, .bool x.l.s.dk, .pointer (some ⟨x.l.p, 0, none⟩), .int .i64 x.most, .int .i64 x.segs, x.sv]) := Lib.hid h.row
  have lt := h.row.lt
  have q24 : w.cell? ⟨g, 24, none⟩ = some (.slice ca n cc) := by rw [← hcv]; exact h.row.cell 24 rfl
  have q26 : w.cell? ⟨g, 26, none⟩ = some (.pointer (some ⟨x.l.p, 0, none⟩)) := h.row.cell 26 rfl
  have hd : decide (16 ≤ n) = false := decide_eq_false hn
  have HTN := Lib.hid ht
  have HL := Lib.hid hl
  have HCN := Lib.hid hcn
  have h0b : ((N : Int) == 0) = false := by simp; omega
  have h0c : decide (N = 0) = false := decide_eq_false (by omega)
  obtain ⟨C, hC⟩ : ∃ C, x.l.s.cells = C := ⟨_, rfl⟩
  have HC := Lib.hid hC
  clear h hcv ht hl hC hcn
  go_enter Tryd.func33, Tryd.ntmps33
  go_wp2_with (first
    | (go_at_call 45; ((with_reducible refine (check_nil _ _).mono ?_); rintro E w0 ⟨rfl, rfl⟩))
    | (go_at_call 11; ((with_reducible refine (Path.segments_calls x.l.p x.l.pv x.l.t _ HG.out.cur.p).mono ?_); rintro E w2 ⟨v1, rfl, hs2, hu2, hv2⟩; obtain ⟨a1, c1, rfl⟩ := owned_val hs2; rw [HTN.out] at hs2 hv2 ⊢; have z2 := hu2.size; have HS2 := Lib.hid hs2; have HV2 := Lib.hid hv2; have HU2 := Lib.hid hu2; have RG2 : Row w2 g #[.int .i64 x.l.s.c.a, .int .i64 x.l.s.c.b, .int .i64 x.l.s.c.c, .int .i64 x.l.s.c.d, .int .i64 x.l.s.c.x, .int .i64 x.l.s.c.y, .int .i64 x.l.s.sp, .int .i64 x.l.s.p0, .int .i64 x.l.s.p1, .int .i64 x.l.s.p2, .int .i64 x.l.s.p3, .int .i64 x.l.s.wd, .int .i64 x.l.s.cap, .int .i64 x.l.s.jn, .int .i64 x.l.s.mt, x.l.s.dv, .int .i64 x.l.s.ph, .int .i64 x.l.s.fn, .int .i64 x.l.s.fm.a, .int .i64 x.l.s.fm.b, .int .i64 x.l.s.fm.c, .int .i64 x.l.s.fm.d, .int .i64 x.l.s.fm.x, .int .i64 x.l.s.fm.y, x.l.s.cv, .bool x.l.s.dk, .pointer (some ⟨x.l.p, 0, none⟩), .int .i64 x.most, .int .i64 x.segs, x.sv] := Row.up HR.out hu2; have lt2 := RG2.lt; have d25 := RG2.cell 25 rfl; have e25 := RG2.free 25; have d24 := RG2.cell 24 rfl; have e24 := RG2.free 24; clear hs2 hv2))
    | (refine wpList_load_mid rfl 41 (.tmp 40) rfl g 0 rfl C _ (by have h := (HG.out.up HU2.out).rowS; rw [HC.out] at h; exact rng_part h) Tryd.underlying41 rfl (by rw [← HC.out]; exact Gs.infoSt) ?_)
    | (go_at_call 38; ((refine Calls.mono (show Calls _ _ #[.agg C.toArray] _ _ from (by rw [← HC.out]; exact own_S x.l.s _ (HG.out.cur.s.a.up HU2.out) HL.out)) ?_); rintro E w3 ⟨s1, rfl, hd1, ho1, hf1, hu3⟩; have z3 := hu3.size; have HD1 := Lib.hid hd1; have HO1 := Lib.hid ho1; have HF1 := Lib.hid hf1; have HU3 := Lib.hid hu3; obtain ⟨a7, c7, e7⟩ := owned_val ho1.cv; have hn1 : s1.cl.length = n := (by have := congrArg SD.cl hd1; have := congrArg List.length this; simpa [S.dat, HCN.out] using this); rw [hn1] at e7; have HN1 := Lib.hid hn1; have E7 := Lib.hid e7; have e1 : s1.cells.toArray = #[.int .i64 s1.c.a, .int .i64 s1.c.b, .int .i64 s1.c.c, .int .i64 s1.c.d, .int .i64 s1.c.x, .int .i64 s1.c.y, .int .i64 s1.sp, .int .i64 s1.p0, .int .i64 s1.p1, .int .i64 s1.p2, .int .i64 s1.p3, .int .i64 s1.wd, .int .i64 s1.cap, .int .i64 s1.jn, .int .i64 s1.mt, s1.dv, .int .i64 s1.ph, .int .i64 s1.fn, .int .i64 s1.fm.a, .int .i64 s1.fm.b, .int .i64 s1.fm.c, .int .i64 s1.fm.d, .int .i64 s1.fm.x, .int .i64 s1.fm.y, .slice a7 n c7, .bool s1.dk] := (by rw [← e7]; rfl); rw [e1]; clear hd1 ho1 hf1 e7 e1 hn1; have hfcv : ∀ W : World, (Instr.field 41 (.agg #[.int .i64 s1.c.a, .int .i64 s1.c.b, .int .i64 s1.c.c, .int .i64 s1.c.d, .int .i64 s1.c.x, .int .i64 s1.c.y, .int .i64 s1.sp, .int .i64 s1.p0, .int .i64 s1.p1, .int .i64 s1.p2, .int .i64 s1.p3, .int .i64 s1.wd, .int .i64 s1.cap, .int .i64 s1.jn, .int .i64 s1.mt, s1.dv, .int .i64 s1.ph, .int .i64 s1.fn, .int .i64 s1.fm.a, .int .i64 s1.fm.b, .int .i64 s1.fm.c, .int .i64 s1.fm.d, .int .i64 s1.fm.x, .int .i64 s1.fm.y, .slice a7 n c7, .bool s1.dk]) 5).run Tryd.prog W = .ok (.slice a7 n c7) W := (fun W => field_cv W); have lt3 : g < w3.heap.size := Nat.lt_of_lt_of_le lt2 z3))
    | (at_builtin; refine wpList_append_lies _ rfl (.tmp 43) (.tmp 47) 39 rfl 0 57 i0 (.agg #[.slice none 0 0, .bool false]) 2 32 Tryd.underlying39 hi hz0 hz1 hz2 rfl (by decide) (.slice a7 n c7) n (clipCells s1.cl) rfl (raw_up (by have h9 := HO1.out.cv; rw [E7.out, HN1.out] at h9; exact h9) (Up.alloc (Up.refl w3) _)) ⟨w3.heap.size, 0, none⟩ 1 1 [.slice a1 N c1, .bool eo] rfl rfl (news_at (by (repeat' (with_reducible first | assumption | (refine Row.at _ _ ?_; (simp; done)) | refine Row.alloc ?_ _ | refine Row.drew ?_ | refine Row.drewN ?_ _ | refine Row.other ?_ (by first | (simp; done) | (simp; omega) | omega) _ | refine Row.up ?_ (by assumption) | refine Row.chg ?_ (by assumption) (by first | (simp; done) | (simp; omega))))) rfl) (by simp [Value.oneCell']) (by decide) (by unfold maxLen; omega) (by omega) (Nat.zero_le _) _ rfl ?_; intro g5 c5 w5 hown5 hgr5 hat5 hg5; have HC5 : Hid (Chg (own s1.cv) (w3.alloc (.cells #[.slice a1 N c1, .bool eo] 57)) w5) := Lib.hid (by rw [E7.out]; exact Chg.grown (Chg.of_up (Up.refl _)) hgr5 (fun k hk => Or.inl (own_mem hk))); have HTO : Hid (To w (w5.setCell ⟨g, 24, none⟩ (.slice (some ⟨g5, 0, none⟩) (n + 1) c5)) g x (clipped x s1 (.slice a1 N c1) x.l.t.l eo g5 n c5)) := Lib.hid (To.clip HG.out HU2.out HS2.out (fun b hb => ⟨HV2.out b (own_of hb), (HS2.out.lt b (own_of hb)).2⟩) HU3.out HO1.out HF1.out (Up.alloc (Up.refl w3) _) HC5.out hown5 HN1.out (by rw [E7.out]; exact hat5)); have hb5 : ∀ b ∈ own s1.cv, w2.heap.size ≤ b := fun b hb => (HF1.out b (by simp [S.bl, hb])).1; have RG5 : Row w5 g #[.int .i64 x.l.s.c.a, .int .i64 x.l.s.c.b, .int .i64 x.l.s.c.c, .int .i64 x.l.s.c.d, .int .i64 x.l.s.c.x, .int .i64 x.l.s.c.y, .int .i64 x.l.s.sp, .int .i64 x.l.s.p0, .int .i64 x.l.s.p1, .int .i64 x.l.s.p2, .int .i64 x.l.s.p3, .int .i64 x.l.s.wd, .int .i64 x.l.s.cap, .int .i64 x.l.s.jn, .int .i64 x.l.s.mt, x.l.s.dv, .int .i64 x.l.s.ph, .int .i64 x.l.s.fn, .int .i64 x.l.s.fm.a, .int .i64 x.l.s.fm.b, .int .i64 x.l.s.fm.c, .int .i64 x.l.s.fm.d, .int .i64 x.l.s.fm.x, .int .i64 x.l.s.fm.y, x.l.s.cv, .bool x.l.s.dk, .pointer (some ⟨x.l.p, 0, none⟩), .int .i64 x.most, .int .i64 x.segs, x.sv] := ((RG2.up HU3.out).alloc _).chg HC5.out (fun h2 => by have := hb5 g h2; omega); have q24d := RG5.cell 24 rfl; have f24d := RG5.free 24; have lt5 := RG5.lt; clear hown5 hgr5 hat5))
  go_ret
  exact ⟨rfl, s1, .slice a1 N c1, g5, c5, HD1.out, HTO.out⟩

end Go.Proofs.YtoflafbhfoncmaaDoor.Gt
end

section
namespace Go.Proofs.YtoflafbhfoncmaaDoor.Gt
open Go.ChangeShapes Go.WideShapes Go.ChangeAt Go.RowKit
open Go.Proofs.YtoflafbhfoncmaaDoor.FixM (fits)
open Go.Proofs.YtoflafbhfoncmaaDoor.MatM (M6)
open Go.Proofs.YtoflafbhfoncmaaDoor.PathM (Seg St Z segCells)
open Go.Proofs.YtoflafbhfoncmaaDoor.Path (own own_mem own_of PathIs Segs)
open Go.Proofs.YtoflafbhfoncmaaDoor.Pt (Clip clipCells Src)
set_option linter.unusedVariables false
set_option linter.unusedSimpArgs false

/-- another path -/
def withPath (x : X) (v : Value) (t : St) : X := ⟨⟨x.l.s, x.l.p, v, t⟩, x.most, x.segs, x.sv, x.saved⟩
theorem To.path {w w' : World} {g : Nat} {x : X} {v : Value} {t : St} (h : G w g x) (hp : PathIs w' x.l.p v t) (hc : Chg (x.l.p :: own x.l.pv) w w') (ho : ∀ b, v.ownBlock = some b → x.l.pv.ownBlock = some b ∨ w.heap.size ≤ b) : To w w' g x (withPath x v t) := by
  have hlt := h.lt
  obtain ⟨n1, n2⟩ := List.nodup_cons.1 h.nd
  obtain ⟨n3, n4, n5⟩ := List.nodup_append.1 n2
  have hn3 : (x.l.p :: (own x.l.pv ++ x.l.s.bl)).Nodup := n3
  obtain ⟨m1, m2⟩ := List.nodup_cons.1 hn3
  obtain ⟨m3, m4, m5⟩ := List.nodup_append.1 m2
  have hin : ∀ b ∈ x.l.p :: own x.l.pv, b ∈ x.l.bl := fun b hb => by
    rcases List.mem_cons.1 hb with h1 | h1
    · rw [h1]; simp [Lv.bl]
    · exact List.mem_cons_of_mem _ (List.mem_append_left _ h1)
  have hs : ∀ b ∈ x.l.s.bl, b ∉ x.l.p :: own x.l.pv := fun b hb h2 => by
    rcases List.mem_cons.1 h2 with h1 | h1
    · rw [h1] at hb; exact m1 (List.mem_append_right _ hb)
    · exact m5 b h1 b hb rfl
  have hg : g ∉ x.l.p :: own x.l.pv := fun h2 => n1 (List.mem_append_left _ (hin g h2))
  have hlow : ∀ b ∈ x.low, b ∉ x.l.p :: own x.l.pv := fun b hb h2 => n5 b (hin b h2) b hb rfl
  have hv : ∀ b ∈ own v, b ∈ own x.l.pv ∨ w.heap.size ≤ b := fun b hb => (ho b (own_of hb)).imp own_mem id
  have hsl : ∀ b ∈ x.l.s.bl, b < w.heap.size := fun b hb => hlt b (List.mem_cons_of_mem _ (List.mem_append_left _ (List.mem_cons_of_mem _ (List.mem_append_right _ hb))))
  have hnd : (x.l.p :: (own v ++ x.l.s.bl)).Nodup := by
    refine List.nodup_cons.2 ⟨fun hm => ?_, List.nodup_append.2 ⟨Pt.own_nodup _, m4, fun a ha b hb e => ?_⟩⟩
    · rcases List.mem_append.1 hm with h1 | h1
      · exact hp.apart _ (own_of h1) rfl
      · exact m1 (List.mem_append_right _ h1)
    · subst e
      rcases hv a ha with h1 | h1
      · exact m5 a h1 a hb rfl
      · have := hsl a hb; omega
  refine ⟨⟨h.row.chg hc hg, ⟨h.cur.s.chg hc hs, hp, hnd⟩, owned_chg h.own hc (fun b hb => hlow b (List.mem_append_left _ (own_mem hb))), fun l hl => (h.svs l hl).chg hc (fun b hb => hlow b (by simp only [X.low, List.mem_append, List.mem_flatMap]; exact Or.inr ⟨l, hl, hb⟩)), ?_⟩, (Chg.refl _ w).call hc (fun b hb => Or.inl (List.mem_cons_of_mem _ (List.mem_append_left _ (hin b hb)))), ?_⟩
  · have hk : ∀ b ∈ x.l.p :: (own v ++ x.l.s.bl), b ∈ x.l.bl ∨ w.heap.size ≤ b := fun b hb => by
      rcases List.mem_cons.1 hb with h1 | h1
      · exact Or.inl (hin b (List.mem_cons.2 (Or.inl h1)))
      rcases List.mem_append.1 h1 with h2 | h2
      · rcases hv b h2 with h3 | h3
        · exact Or.inl (hin b (List.mem_cons_of_mem _ h3))
        · exact Or.inr h3
      · exact Or.inl (List.mem_cons_of_mem _ (List.mem_append_right _ h2))
    refine List.nodup_cons.2 ⟨fun hm => ?_, List.nodup_append.2 ⟨hnd, n4, fun a ha b hb e => ?_⟩⟩
    · rcases List.mem_append.1 hm with h1 | h1
      · rcases hk g h1 with h2 | h2
        · exact n1 (List.mem_append_left _ h2)
        · have := h.row.lt; omega
      · exact n1 (List.mem_append_right _ h1)
    · rcases hk a ha with h2 | h2
      · exact n5 a h2 b hb e
      · have := hlt b (List.mem_cons_of_mem _ (List.mem_append_right _ hb)); omega
  · intro b hb
    rcases List.mem_cons.1 hb with h1 | h1
    · exact Or.inl (by rw [h1]; simp [X.bl])
    rcases List.mem_append.1 h1 with h2 | h2
    · rcases List.mem_cons.1 (show b ∈ x.l.p :: (own v ++ x.l.s.bl) from h2) with h3 | h3
      · exact Or.inl (List.mem_cons_of_mem _ (List.mem_append_left _ (hin b (List.mem_cons.2 (Or.inl h3)))))
      rcases List.mem_append.1 h3 with h4 | h4
      · rcases hv b h4 with h5 | h5
        · exact Or.inl (List.mem_cons_of_mem _ (List.mem_append_left _ (hin b (List.mem_cons_of_mem _ h5))))
        · exact Or.inr h5
      · exact Or.inl (List.mem_cons_of_mem _ (List.mem_append_left _ (List.mem_cons_of_mem _ (List.mem_append_right _ h4))))
    · exact Or.inl (List.mem_cons_of_mem _ (List.mem_append_right _ h2))
theorem clear_X (g : Nat) (x : X) (w : World) (h : G w g x) : Calls Tryd.prog 35 #[.pointer (some ⟨x.l.p, 0, none⟩)] w fun E w' => E = .returned (.tuple #[]) ∧ To w w' g x (withPath x (.slice none 0 0) ⟨x.l.t.most, [], Z, Z⟩) := by
  refine (Path.clear_calls x.l.p x.l.pv x.l.t w h.cur.p).mono ?_
  rintro E w' ⟨rfl, h1, h2⟩
  exact ⟨rfl, To.path h h1 ((Chg.refl _ w).call h2 (fun b hb => Or.inl (by simp at hb; simp [hb]))) (fun b hb => by cases hb)⟩
theorem move_X (g : Nat) (x : X) (a b : Int) (w : World) (h : G w g x) (hl : x.l.t.l.length + 2 ≤ 100000000) (hk : PathM.lastK x.l.t.l ≠ 1) : Calls Tryd.prog 36 #[.pointer (some ⟨x.l.p, 0, none⟩), .agg #[.int .i64 a, .int .i64 b]] w fun E w' => E = .returned (.int .i64 (x.l.t.move (a, b)).2) ∧ ∃ v, To w w' g x (withPath x v (x.l.t.move (a, b)).1) := by
  refine (Path.move_other x.l.p x.l.pv x.l.t a b w h.cur.p hl hk).mono ?_
  rintro E w' ⟨rfl, v, h1, h2, h3⟩
  exact ⟨rfl, v, To.path h h1 h2 h3⟩
theorem line_X (g : Nat) (x : X) (a b : Int) (w : World) (h : G w g x) (hl : x.l.t.l.length + 2 ≤ 100000000) : Calls Tryd.prog 37 #[.pointer (some ⟨x.l.p, 0, none⟩), .agg #[.int .i64 a, .int .i64 b]] w fun E w' => E = .returned (.int .i64 (x.l.t.line (a, b)).2) ∧ ∃ v, To w w' g x (withPath x v (x.l.t.line (a, b)).1) := by
  refine (Path.line_calls x.l.p x.l.pv x.l.t a b w h.cur.p hl).mono ?_
  rintro E w' ⟨rfl, v, h1, h2, h3⟩
  exact ⟨rfl, v, To.path h h1 h2 h3⟩
theorem path_X (g : Nat) (x : X) (w : World) (h : G w g x) : Calls Tryd.prog 10 #[.pointer (some ⟨g, 0, none⟩)] w fun E w' => E = .returned (.pointer (some ⟨x.l.p, 0, none⟩)) ∧ w = w' :=
  Gs.path_calls g x.l.p w (h.row.cell 26 rfl)
/-- another state, of the same lists -/
def withS (x : X) (s : S) : X := ⟨⟨s, x.l.p, x.l.pv, x.l.t⟩, x.most, x.segs, x.sv, x.saved⟩
theorem To.setS {w w' : World} {g : Nat} {x : X} {s : S} (h : G w g x) (hr : Row w' g (withS x s).cells.toArray) (hc : Chg [g] w w') (e1 : s.dv = x.l.s.dv) (e2 : s.ds = x.l.s.ds) (e3 : s.cv = x.l.s.cv) (e4 : s.cl = x.l.s.cl) : To w w' g x (withS x s) := by
  have hb : s.bl = x.l.s.bl := by simp [S.bl, e1, e3, e4]
  have hs := h.cur.s
  refine To.set h hr hc (by simp [withS, Lv.bl, hb]) rfl ⟨⟨by rw [show (withS x s).l.s = s from rfl, e1, e2]; exact hs.dv, by rw [show (withS x s).l.s = s from rfl, e2]; exact hs.dw, by rw [show (withS x s).l.s = s from rfl, e3, e4]; exact hs.cv, by rw [show (withS x s).l.s = s from rfl, e4]; exact hs.cs, by rw [show (withS x s).l.s = s from rfl, hb]; exact hs.nd⟩, h.cur.p, ?_⟩ rfl rfl
  have := h.cur.nd
  simpa [withS, Lv.bl, hb] using this

end Go.Proofs.YtoflafbhfoncmaaDoor.Gt
end

section
namespace Go.Proofs.YtoflafbhfoncmaaDoor.Gt
open Go.ChangeShapes Go.WideShapes Go.ChangeAt Go.RowKit
open Go.Proofs.YtoflafbhfoncmaaDoor.FixM (fits)
open Go.Proofs.YtoflafbhfoncmaaDoor.MatM (M6)
open Go.Proofs.YtoflafbhfoncmaaDoor.PathM (Seg St Z segCells)
open Go.Proofs.YtoflafbhfoncmaaDoor.Path (own own_mem own_of PathIs Segs)
open Go.Proofs.YtoflafbhfoncmaaDoor.Pt (Clip clipCells Src)
set_option linter.unusedVariables false
set_option linter.unusedSimpArgs false

/-- what states say -/
structure GD where
  s : SD
  t : St
  most : Int
  segs : Int
  saved : List (SD × St)
def X.dat (x : X) : GD := ⟨x.l.s.dat, x.l.t, x.most, x.segs, x.saved.map (fun l => (l.s.dat, l.t))⟩
def GD.set (d : GD) (s : SD) : GD := { d with s := s }
theorem chk01 (l : List Int) : Gs.chk l = 0 ∨ Gs.chk l = 11 := by unfold Gs.chk; split <;> simp

def setWidthM (n : Int) (d : GD) : GD × Int := if Gs.chk [n] = 0 then (if n < 0 then (d, 11) else (d.set { d.s with pen := (n, d.s.pen.2) }, 0)) else (d, 11)
set_option maxRecDepth 8000 in
theorem setWidth_X (g : Nat) (x : X) (n : Int) (w : World) (h : G w g x) : Calls Tryd.prog 22 #[.pointer (some ⟨g, 0, none⟩), .int .i64 n] w fun E w' => ∃ y, E = .returned (.int .i64 (setWidthM n x.dat).2) ∧ To w w' g x y ∧ y.dat = (setWidthM n x.dat).1 := by
  unfold setWidthM
  rcases chk01 [n] with hv | hv
  · rw [if_pos hv]
    by_cases hn : n < 0
    · rw [if_pos hn]
      refine (setWidth_bad x.l.s.c x.l.s.sp x.l.s.p0 x.l.s.p1 x.l.s.p2 x.l.s.p3 x.l.s.wd x.l.s.cap x.l.s.jn x.l.s.mt x.l.s.dv x.l.s.ph x.l.s.fn x.l.s.fm x.l.s.cv x.l.s.dk (.pointer (some ⟨x.l.p, 0, none⟩)) x.most x.segs x.sv g n hv (decide_eq_true hn) w h.row).mono ?_
      rintro E w' ⟨rfl, hu⟩
      exact ⟨x, rfl, To.up h hu, rfl⟩
    · rw [if_neg hn]
      refine (setWidth_ok x.l.s.c x.l.s.sp x.l.s.p0 x.l.s.p1 x.l.s.p2 x.l.s.p3 x.l.s.wd x.l.s.cap x.l.s.jn x.l.s.mt x.l.s.dv x.l.s.ph x.l.s.fn x.l.s.fm x.l.s.cv x.l.s.dk (.pointer (some ⟨x.l.p, 0, none⟩)) x.most x.segs x.sv g n hv (decide_eq_false hn) w h.row).mono ?_
      rintro E w' ⟨rfl, hr, hc⟩
      exact ⟨withS x { x.l.s with wd := n }, rfl, To.setS h hr hc rfl rfl rfl rfl, rfl⟩
  · rw [if_neg (by rw [hv]; decide)]
    refine (setWidth_far x.l.s.c x.l.s.sp x.l.s.p0 x.l.s.p1 x.l.s.p2 x.l.s.p3 x.l.s.wd x.l.s.cap x.l.s.jn x.l.s.mt x.l.s.dv x.l.s.ph x.l.s.fn x.l.s.fm x.l.s.cv x.l.s.dk (.pointer (some ⟨x.l.p, 0, none⟩)) x.most x.segs x.sv g n hv w h.row).mono ?_
    rintro E w' ⟨rfl, hu⟩
    exact ⟨x, rfl, To.up h hu, rfl⟩

def setMiterM (n : Int) (d : GD) : GD × Int := if Gs.chk [n] = 0 then (if n < 65536 then (d, 11) else (d.set { d.s with pen := (d.s.pen.1, d.s.pen.2.1, d.s.pen.2.2.1, n) }, 0)) else (d, 11)
set_option maxRecDepth 8000 in
theorem setMiter_X (g : Nat) (x : X) (n : Int) (w : World) (h : G w g x) : Calls Tryd.prog 32 #[.pointer (some ⟨g, 0, none⟩), .int .i64 n] w fun E w' => ∃ y, E = .returned (.int .i64 (setMiterM n x.dat).2) ∧ To w w' g x y ∧ y.dat = (setMiterM n x.dat).1 := by
  unfold setMiterM
  rcases chk01 [n] with hv | hv
  · rw [if_pos hv]
    by_cases hn : n < 65536
    · rw [if_pos hn]
      refine (setMiter_bad x.l.s.c x.l.s.sp x.l.s.p0 x.l.s.p1 x.l.s.p2 x.l.s.p3 x.l.s.wd x.l.s.cap x.l.s.jn x.l.s.mt x.l.s.dv x.l.s.ph x.l.s.fn x.l.s.fm x.l.s.cv x.l.s.dk (.pointer (some ⟨x.l.p, 0, none⟩)) x.most x.segs x.sv g n hv (decide_eq_true hn) w h.row).mono ?_
      rintro E w' ⟨rfl, hu⟩
      exact ⟨x, rfl, To.up h hu, rfl⟩
    · rw [if_neg hn]
      refine (setMiter_ok x.l.s.c x.l.s.sp x.l.s.p0 x.l.s.p1 x.l.s.p2 x.l.s.p3 x.l.s.wd x.l.s.cap x.l.s.jn x.l.s.mt x.l.s.dv x.l.s.ph x.l.s.fn x.l.s.fm x.l.s.cv x.l.s.dk (.pointer (some ⟨x.l.p, 0, none⟩)) x.most x.segs x.sv g n hv (decide_eq_false hn) w h.row).mono ?_
      rintro E w' ⟨rfl, hr, hc⟩
      exact ⟨withS x { x.l.s with mt := n }, rfl, To.setS h hr hc rfl rfl rfl rfl, rfl⟩
  · rw [if_neg (by rw [hv]; decide)]
    refine (setMiter_far x.l.s.c x.l.s.sp x.l.s.p0 x.l.s.p1 x.l.s.p2 x.l.s.p3 x.l.s.wd x.l.s.cap x.l.s.jn x.l.s.mt x.l.s.dv x.l.s.ph x.l.s.fn x.l.s.fm x.l.s.cv x.l.s.dk (.pointer (some ⟨x.l.p, 0, none⟩)) x.most x.segs x.sv g n hv w h.row).mono ?_
    rintro E w' ⟨rfl, hu⟩
    exact ⟨x, rfl, To.up h hu, rfl⟩

theorem shE01 (n : Int) : shE n = 0 ∨ shE n = 11 := by unfold shE; split <;> (try split) <;> simp
def setCapM (n : Int) (d : GD) : GD × Int := if shE n = 0 then (d.set { d.s with pen := (d.s.pen.1, n, d.s.pen.2.2) }, 0) else (d, 11)
set_option maxRecDepth 8000 in
theorem setCap_X (g : Nat) (x : X) (n : Int) (w : World) (h : G w g x) : Calls Tryd.prog 30 #[.pointer (some ⟨g, 0, none⟩), .int .i64 n] w fun E w' => ∃ y, E = .returned (.int .i64 (setCapM n x.dat).2) ∧ To w w' g x y ∧ y.dat = (setCapM n x.dat).1 := by
  unfold setCapM
  rcases shE01 n with hv | hv
  · rw [if_pos hv]
    refine (setCap_ok x.l.s.c x.l.s.sp x.l.s.p0 x.l.s.p1 x.l.s.p2 x.l.s.p3 x.l.s.wd x.l.s.cap x.l.s.jn x.l.s.mt x.l.s.dv x.l.s.ph x.l.s.fn x.l.s.fm x.l.s.cv x.l.s.dk (.pointer (some ⟨x.l.p, 0, none⟩)) x.most x.segs x.sv g n hv w h.row).mono ?_
    rintro E w' ⟨rfl, hr, hc⟩
    exact ⟨withS x { x.l.s with cap := n }, rfl, To.setS h hr hc rfl rfl rfl rfl, rfl⟩
  · rw [if_neg (by rw [hv]; decide)]
    refine (setCap_bad x.l.s.c x.l.s.sp x.l.s.p0 x.l.s.p1 x.l.s.p2 x.l.s.p3 x.l.s.wd x.l.s.cap x.l.s.jn x.l.s.mt x.l.s.dv x.l.s.ph x.l.s.fn x.l.s.fm x.l.s.cv x.l.s.dk (.pointer (some ⟨x.l.p, 0, none⟩)) x.most x.segs x.sv g n hv w h.row).mono ?_
    rintro E w' ⟨rfl, hu⟩
    exact ⟨x, rfl, To.up h hu, rfl⟩

def setJoinM (n : Int) (d : GD) : GD × Int := if shE n = 0 then (d.set { d.s with pen := (d.s.pen.1, d.s.pen.2.1, n, d.s.pen.2.2.2) }, 0) else (d, 11)
set_option maxRecDepth 8000 in
theorem setJoin_X (g : Nat) (x : X) (n : Int) (w : World) (h : G w g x) : Calls Tryd.prog 31 #[.pointer (some ⟨g, 0, none⟩), .int .i64 n] w fun E w' => ∃ y, E = .returned (.int .i64 (setJoinM n x.dat).2) ∧ To w w' g x y ∧ y.dat = (setJoinM n x.dat).1 := by
  unfold setJoinM
  rcases shE01 n with hv | hv
  · rw [if_pos hv]
    refine (setJoin_ok x.l.s.c x.l.s.sp x.l.s.p0 x.l.s.p1 x.l.s.p2 x.l.s.p3 x.l.s.wd x.l.s.cap x.l.s.jn x.l.s.mt x.l.s.dv x.l.s.ph x.l.s.fn x.l.s.fm x.l.s.cv x.l.s.dk (.pointer (some ⟨x.l.p, 0, none⟩)) x.most x.segs x.sv g n hv w h.row).mono ?_
    rintro E w' ⟨rfl, hr, hc⟩
    exact ⟨withS x { x.l.s with jn := n }, rfl, To.setS h hr hc rfl rfl rfl rfl, rfl⟩
  · rw [if_neg (by rw [hv]; decide)]
    refine (setJoin_bad x.l.s.c x.l.s.sp x.l.s.p0 x.l.s.p1 x.l.s.p2 x.l.s.p3 x.l.s.wd x.l.s.cap x.l.s.jn x.l.s.mt x.l.s.dv x.l.s.ph x.l.s.fn x.l.s.fm x.l.s.cv x.l.s.dk (.pointer (some ⟨x.l.p, 0, none⟩)) x.most x.segs x.sv g n hv w h.row).mono ?_
    rintro E w' ⟨rfl, hu⟩
    exact ⟨x, rfl, To.up h hu, rfl⟩

def setMatrixM (m : M6) (d : GD) : GD × Int := if Gs.chk (l6 m) = 0 then (d.set { d.s with c := m }, 0) else (d, 11)
set_option maxRecDepth 8000 in
theorem setMatrix_X (g : Nat) (x : X) (m : M6) (w : World) (h : G w g x) : Calls Tryd.prog 26 #[.pointer (some ⟨g, 0, none⟩), .agg #[.int .i64 m.a, .int .i64 m.b, .int .i64 m.c, .int .i64 m.d, .int .i64 m.x, .int .i64 m.y]] w fun E w' => ∃ y, E = .returned (.int .i64 (setMatrixM m x.dat).2) ∧ To w w' g x y ∧ y.dat = (setMatrixM m x.dat).1 := by
  unfold setMatrixM
  rcases chk01 (l6 m) with hv | hv
  · rw [if_pos hv]
    refine (setMatrix_ok x.l.s.c x.l.s.sp x.l.s.p0 x.l.s.p1 x.l.s.p2 x.l.s.p3 x.l.s.wd x.l.s.cap x.l.s.jn x.l.s.mt x.l.s.dv x.l.s.ph x.l.s.fn x.l.s.fm x.l.s.cv x.l.s.dk (.pointer (some ⟨x.l.p, 0, none⟩)) x.most x.segs x.sv g m hv w h.row).mono ?_
    rintro E w' ⟨rfl, hr, hc⟩
    exact ⟨withS x { x.l.s with c := m }, rfl, To.setS h hr hc rfl rfl rfl rfl, rfl⟩
  · rw [if_neg (by rw [hv]; decide)]
    refine (setMatrix_bad x.l.s.c x.l.s.sp x.l.s.p0 x.l.s.p1 x.l.s.p2 x.l.s.p3 x.l.s.wd x.l.s.cap x.l.s.jn x.l.s.mt x.l.s.dv x.l.s.ph x.l.s.fn x.l.s.fm x.l.s.cv x.l.s.dk (.pointer (some ⟨x.l.p, 0, none⟩)) x.most x.segs x.sv g m hv w h.row).mono ?_
    rintro E w' ⟨rfl, hu⟩
    exact ⟨x, rfl, To.up h hu, rfl⟩

def concatM (m : M6) (d : GD) : GD × Int := if Gs.chk (l6 m) = 0 then (if (MatM.concat m d.s.c).2 = 0 then (d.set { d.s with c := (MatM.concat m d.s.c).1 }, 0) else (d, (MatM.concat m d.s.c).2)) else (d, 11)
set_option maxRecDepth 8000 in
theorem concat_X (g : Nat) (x : X) (m : M6) (w : World) (h : G w g x) (h4 : (Lit.int .i64 x.l.s.c.x).wf = true) (h5 : (Lit.int .i64 x.l.s.c.y).wf = true) : Calls Tryd.prog 25 #[.pointer (some ⟨g, 0, none⟩), .agg #[.int .i64 m.a, .int .i64 m.b, .int .i64 m.c, .int .i64 m.d, .int .i64 m.x, .int .i64 m.y]] w fun E w' => ∃ y, E = .returned (.int .i64 (concatM m x.dat).2) ∧ To w w' g x y ∧ y.dat = (concatM m x.dat).1 := by
  unfold concatM
  rcases chk01 (l6 m) with hv | hv
  · rw [if_pos hv]
    show Calls _ _ _ _ fun E w' => ∃ y, E = .returned (.int .i64 (if (MatM.concat m x.l.s.c).2 = 0 then (x.dat.set { x.dat.s with c := (MatM.concat m x.l.s.c).1 }, 0) else (x.dat, (MatM.concat m x.l.s.c).2)).2) ∧ To w w' g x y ∧ y.dat = (if (MatM.concat m x.l.s.c).2 = 0 then (x.dat.set { x.dat.s with c := (MatM.concat m x.l.s.c).1 }, 0) else (x.dat, (MatM.concat m x.l.s.c).2)).1
    obtain ⟨c2, e, hC⟩ : ∃ c2 e, MatM.concat m x.l.s.c = (c2, e) := ⟨_, _, rfl⟩
    rw [hC]
    by_cases he : e = 0
    · rw [if_pos he]
      refine (concat_ok x.l.s.c x.l.s.sp x.l.s.p0 x.l.s.p1 x.l.s.p2 x.l.s.p3 x.l.s.wd x.l.s.cap x.l.s.jn x.l.s.mt x.l.s.dv x.l.s.ph x.l.s.fn x.l.s.fm x.l.s.cv x.l.s.dk (.pointer (some ⟨x.l.p, 0, none⟩)) x.most x.segs x.sv g m c2 e w h.row hv hC (by simpa using he) h4 h5).mono ?_
      rintro E w' ⟨rfl, hr, hc⟩
      exact ⟨withS x { x.l.s with c := c2 }, by rw [he], To.setS h hr hc rfl rfl rfl rfl, rfl⟩
    · rw [if_neg he]
      refine (concat_err x.l.s.c x.l.s.sp x.l.s.p0 x.l.s.p1 x.l.s.p2 x.l.s.p3 x.l.s.wd x.l.s.cap x.l.s.jn x.l.s.mt x.l.s.dv x.l.s.ph x.l.s.fn x.l.s.fm x.l.s.cv x.l.s.dk (.pointer (some ⟨x.l.p, 0, none⟩)) x.most x.segs x.sv g m c2 e w h.row hv hC (by simpa using he) h4 h5).mono ?_
      rintro E w' ⟨rfl, hu⟩
      exact ⟨x, rfl, To.up h hu, rfl⟩
  · rw [if_neg (by rw [hv]; decide)]
    refine (concat_bad x.l.s.c x.l.s.sp x.l.s.p0 x.l.s.p1 x.l.s.p2 x.l.s.p3 x.l.s.wd x.l.s.cap x.l.s.jn x.l.s.mt x.l.s.dv x.l.s.ph x.l.s.fn x.l.s.fm x.l.s.cv x.l.s.dk (.pointer (some ⟨x.l.p, 0, none⟩)) x.most x.segs x.sv g m w h.row hv).mono ?_
    rintro E w' ⟨rfl, hu⟩
    exact ⟨x, rfl, To.up h hu, rfl⟩

def setFontM (i : Int) (m : M6) (d : GD) : GD × Int := if Gs.chk (l6 m) = 0 then (if 0 ≤ i ∧ i < 14 then (d.set { d.s with fn := i, fm := m }, 0) else (d, 7)) else (d, 11)
set_option maxRecDepth 8000 in
theorem setFont_X (g : Nat) (x : X) (i : Int) (m : M6) (w : World) (h : G w g x) (hT : Font.Tab w) : Calls Tryd.prog 27 #[.pointer (some ⟨g, 0, none⟩), .int .i64 i, .agg #[.int .i64 m.a, .int .i64 m.b, .int .i64 m.c, .int .i64 m.d, .int .i64 m.x, .int .i64 m.y]] w fun E w' => ∃ y, E = .returned (.int .i64 (setFontM i m x.dat).2) ∧ To w w' g x y ∧ y.dat = (setFontM i m x.dat).1 := by
  unfold setFontM
  rcases chk01 (l6 m) with hv | hv
  · rw [if_pos hv]
    by_cases hi : 0 ≤ i ∧ i < 14
    · rw [if_pos hi]
      refine (setFont_ok x.l.s.c x.l.s.sp x.l.s.p0 x.l.s.p1 x.l.s.p2 x.l.s.p3 x.l.s.wd x.l.s.cap x.l.s.jn x.l.s.mt x.l.s.dv x.l.s.ph x.l.s.fn x.l.s.fm x.l.s.cv x.l.s.dk (.pointer (some ⟨x.l.p, 0, none⟩)) x.most x.segs x.sv g i m w h.row hv hi.1 hi.2 hT).mono ?_
      rintro E w' ⟨rfl, hr, hc⟩
      exact ⟨withS x { x.l.s with fn := i, fm := m }, rfl, To.setS h hr hc rfl rfl rfl rfl, rfl⟩
    · rw [if_neg hi]
      refine (setFont_none x.l.s.c x.l.s.sp x.l.s.p0 x.l.s.p1 x.l.s.p2 x.l.s.p3 x.l.s.wd x.l.s.cap x.l.s.jn x.l.s.mt x.l.s.dv x.l.s.ph x.l.s.fn x.l.s.fm x.l.s.cv x.l.s.dk (.pointer (some ⟨x.l.p, 0, none⟩)) x.most x.segs x.sv g i m w h.row hv hi hT).mono ?_
      rintro E w' ⟨rfl, hu⟩
      exact ⟨x, rfl, To.up h hu, rfl⟩
  · rw [if_neg (by rw [hv]; decide)]
    refine (setFont_bad x.l.s.c x.l.s.sp x.l.s.p0 x.l.s.p1 x.l.s.p2 x.l.s.p3 x.l.s.wd x.l.s.cap x.l.s.jn x.l.s.mt x.l.s.dv x.l.s.ph x.l.s.fn x.l.s.fm x.l.s.cv x.l.s.dk (.pointer (some ⟨x.l.p, 0, none⟩)) x.most x.segs x.sv g i m w h.row hv).mono ?_
    rintro E w' ⟨rfl, hu⟩
    exact ⟨x, rfl, To.up h hu, rfl⟩

/-- the colour of one, three or four parts -/
def colorM (zs : List Int) (d : GD) : GD × Int := if Gs.chk zs = 0 then (match zs with
  | [a] => (d.set { d.s with col := (1, clamp a, 0, 0, 0) }, 0)
  | [a, b, c] => (d.set { d.s with col := (3, clamp a, clamp b, clamp c, 0) }, 0)
  | [a, b, c, e] => (d.set { d.s with col := (4, clamp a, clamp b, clamp c, clamp e) }, 0)
  | _ => (d, 11)) else (d, 11)
theorem colorM_bad (zs : List Int) (d : GD) (h1 : zs.length ≠ 1) (h3 : zs.length ≠ 3) (h4 : zs.length ≠ 4) : colorM zs d = (d, 11) := by
  unfold colorM
  split
  · match zs, h1, h3, h4 with
    | [], _, _, _ => rfl
    | [_], h, _, _ => exact absurd rfl h
    | [_, _], _, _, _ => rfl
    | [_, _, _], _, h, _ => exact absurd rfl h
    | [_, _, _, _], _, _, h => exact absurd rfl h
    | _ :: _ :: _ :: _ :: _ :: _, _, _, _ => rfl
  · rfl
set_option maxRecDepth 8000 in
theorem setColor_X (g : Nat) (x : X) (lg N lc : Nat) (zs : List Int) (w : World) (h : G w g x) (hI : Gs.IntsAt w lg 0 zs) (hN : zs.length = N) (hl : N ≤ 1000) (ll : lg < w.heap.size) : Calls Tryd.prog 28 #[.pointer (some ⟨g, 0, none⟩), .slice (some ⟨lg, 0, none⟩) N lc] w fun E w' => ∃ y, E = .returned (.int .i64 (colorM zs x.dat).2) ∧ To w w' g x y ∧ y.dat = (colorM zs x.dat).1 := by
  subst hN
  rcases chk01 zs with hv | hv
  · by_cases h1 : zs.length = 1
    · match zs, h1 with
      | [a], _ =>
        unfold colorM
        rw [if_pos hv]
        refine (setColor_1 x.l.s.c x.l.s.sp x.l.s.p0 x.l.s.p1 x.l.s.p2 x.l.s.p3 x.l.s.wd x.l.s.cap x.l.s.jn x.l.s.mt x.l.s.dv x.l.s.ph x.l.s.fn x.l.s.fm x.l.s.cv x.l.s.dk (.pointer (some ⟨x.l.p, 0, none⟩)) x.most x.segs x.sv g lg lc a w h.row hI ll hv).mono ?_
        rintro E w' ⟨rfl, hr, hc⟩
        exact ⟨withS x { x.l.s with sp := 1, p0 := clamp a, p1 := 0, p2 := 0, p3 := 0 }, rfl, To.setS h hr hc rfl rfl rfl rfl, rfl⟩
    by_cases h3 : zs.length = 3
    · match zs, h3 with
      | [a, b, c], _ =>
        unfold colorM
        rw [if_pos hv]
        refine (setColor_3 x.l.s.c x.l.s.sp x.l.s.p0 x.l.s.p1 x.l.s.p2 x.l.s.p3 x.l.s.wd x.l.s.cap x.l.s.jn x.l.s.mt x.l.s.dv x.l.s.ph x.l.s.fn x.l.s.fm x.l.s.cv x.l.s.dk (.pointer (some ⟨x.l.p, 0, none⟩)) x.most x.segs x.sv g lg lc a b c w h.row hI ll hv).mono ?_
        rintro E w' ⟨rfl, hr, hc⟩
        exact ⟨withS x { x.l.s with sp := 3, p0 := clamp a, p1 := clamp b, p2 := clamp c, p3 := 0 }, rfl, To.setS h hr hc rfl rfl rfl rfl, rfl⟩
    by_cases h4 : zs.length = 4
    · match zs, h4 with
      | [a, b, c, e], _ =>
        unfold colorM
        rw [if_pos hv]
        refine (setColor_4 x.l.s.c x.l.s.sp x.l.s.p0 x.l.s.p1 x.l.s.p2 x.l.s.p3 x.l.s.wd x.l.s.cap x.l.s.jn x.l.s.mt x.l.s.dv x.l.s.ph x.l.s.fn x.l.s.fm x.l.s.cv x.l.s.dk (.pointer (some ⟨x.l.p, 0, none⟩)) x.most x.segs x.sv g lg lc a b c e w h.row hI ll hv).mono ?_
        rintro E w' ⟨rfl, hr, hc⟩
        exact ⟨withS x { x.l.s with sp := 4, p0 := clamp a, p1 := clamp b, p2 := clamp c, p3 := clamp e }, rfl, To.setS h hr hc rfl rfl rfl rfl, rfl⟩
    rw [colorM_bad zs x.dat h1 h3 h4]
    refine (setColor_bad x.l.s.c x.l.s.sp x.l.s.p0 x.l.s.p1 x.l.s.p2 x.l.s.p3 x.l.s.wd x.l.s.cap x.l.s.jn x.l.s.mt x.l.s.dv x.l.s.ph x.l.s.fn x.l.s.fm x.l.s.cv x.l.s.dk (.pointer (some ⟨x.l.p, 0, none⟩)) x.most x.segs x.sv g lg zs.length lc zs w h.row hI rfl hl ll hv h1 h3 h4).mono ?_
    rintro E w' ⟨rfl, hu⟩
    exact ⟨x, rfl, To.up h hu, rfl⟩
  · unfold colorM
    rw [if_neg (by rw [hv]; decide)]
    refine (setColor_far x.l.s.c x.l.s.sp x.l.s.p0 x.l.s.p1 x.l.s.p2 x.l.s.p3 x.l.s.wd x.l.s.cap x.l.s.jn x.l.s.mt x.l.s.dv x.l.s.ph x.l.s.fn x.l.s.fm x.l.s.cv x.l.s.dk (.pointer (some ⟨x.l.p, 0, none⟩)) x.most x.segs x.sv g lg zs.length lc zs w h.row hI rfl hl ll hv).mono ?_
    rintro E w' ⟨rfl, hu⟩
    exact ⟨x, rfl, To.up h hu, rfl⟩
theorem To.sub {w w' : World} {g : Nat} {x : X} {l : Lv} (h : G w g x) (hr : Row w' g (X.cells ⟨l, x.most, x.segs, x.sv, x.saved⟩).toArray) (hc : Chg [g] w w') (hl : LO w l) (hs : ∀ b ∈ l.bl, b ∈ x.l.bl) : To w w' g x ⟨l, x.most, x.segs, x.sv, x.saved⟩ := by
  obtain ⟨n1, n2⟩ := List.nodup_cons.1 h.nd
  obtain ⟨n3, n4, n5⟩ := List.nodup_append.1 n2
  have ng : ∀ b ∈ x.l.bl ++ x.low, b ∉ [g] := fun b hb h2 => by
    rw [List.mem_singleton] at h2
    rw [h2] at hb
    exact n1 hb
  refine ⟨⟨hr, hl.chg hc (fun b hb => ng b (List.mem_append_left _ (hs b hb))), owned_chg h.own hc (fun b hb => ng b (List.mem_append_right _ (List.mem_append_left _ (own_mem hb)))), fun l2 hl2 => (h.svs l2 hl2).chg hc (fun b hb => ng b (List.mem_append_right _ (by simp only [X.low, List.mem_append, List.mem_flatMap]; exact Or.inr ⟨l2, hl2, hb⟩))), ?_⟩, (Chg.refl _ w).call hc (fun b hb => Or.inl (by rw [List.mem_singleton] at hb; rw [hb]; simp [X.bl])), ?_⟩
  · refine List.nodup_cons.2 ⟨fun hm => ?_, List.nodup_append.2 ⟨hl.nd, n4, fun a ha b hb e => n5 a (hs a ha) b hb e⟩⟩
    rcases List.mem_append.1 hm with h1 | h1
    · exact n1 (List.mem_append_left _ (hs g h1))
    · exact n1 (List.mem_append_right _ h1)
  · intro b hb
    rcases List.mem_cons.1 hb with h1 | h1
    · exact Or.inl (by rw [h1]; simp [X.bl])
    rcases List.mem_append.1 h1 with h2 | h2
    · exact Or.inl (List.mem_cons_of_mem _ (List.mem_append_left _ (hs b h2)))
    · exact Or.inl (List.mem_cons_of_mem _ (List.mem_append_right _ h2))
set_option maxRecDepth 8000 in
theorem unclip_X (g : Nat) (x : X) (w : World) (h : G w g x) : Calls Tryd.prog 34 #[.pointer (some ⟨g, 0, none⟩)] w fun E w' => ∃ y, E = .returned (.tuple #[]) ∧ To w w' g x y ∧ y.dat = x.dat.set { x.dat.s with cl := [], dk := false } := by
  refine (unclip_calls x.l.s.c x.l.s.sp x.l.s.p0 x.l.s.p1 x.l.s.p2 x.l.s.p3 x.l.s.wd x.l.s.cap x.l.s.jn x.l.s.mt x.l.s.dv x.l.s.ph x.l.s.fn x.l.s.fm x.l.s.cv x.l.s.dk (.pointer (some ⟨x.l.p, 0, none⟩)) x.most x.segs x.sv g w h.row).mono ?_
  rintro E w' ⟨rfl, hr, hc⟩
  have hs : ∀ b ∈ (withS x { x.l.s with cv := .slice none 0 0, cl := [], dk := false }).l.bl, b ∈ x.l.bl := fun b hb => by
    have hb2 : b ∈ x.l.p :: (own x.l.pv ++ (own x.l.s.dv ++ [])) := hb
    simp only [List.append_nil, List.mem_cons, List.mem_append] at hb2
    simp only [Lv.bl, S.bl, List.mem_cons, List.mem_append]
    rcases hb2 with h1 | h1 | h1
    · exact Or.inl h1
    · exact Or.inr (Or.inl h1)
    · exact Or.inr (Or.inr (Or.inl h1))
  have hn : (x.l.p :: (own x.l.pv ++ (own x.l.s.dv ++ []))).Nodup := by
    have hn3 : (x.l.p :: (own x.l.pv ++ (own x.l.s.dv ++ (own x.l.s.cv ++ x.l.s.cl.flatMap (fun c => own c.v))))).Nodup := h.cur.nd
    rw [← List.append_assoc] at hn3
    have h1 : ((x.l.p :: (own x.l.pv ++ own x.l.s.dv)) ++ (own x.l.s.cv ++ x.l.s.cl.flatMap (fun c => own c.v))).Nodup := hn3
    rw [List.append_nil]
    exact (List.nodup_append.1 h1).1
  refine ⟨withS x { x.l.s with cv := .slice none 0 0, cl := [], dk := false }, rfl, To.sub h hr hc ⟨⟨h.cur.s.dv, h.cur.s.dw, World.ownsRow_nil _ _ _ _, (fun c hc => by cases hc), ?_⟩, h.cur.p, hn⟩ hs, rfl⟩
  exact (List.nodup_append.1 (List.nodup_cons.1 hn).2).2.1

end Go.Proofs.YtoflafbhfoncmaaDoor.Gt
end

section
namespace Go.Proofs.YtoflafbhfoncmaaDoor.Gt
open Go.ChangeShapes Go.WideShapes Go.ChangeAt Go.RowKit
open Go.Proofs.YtoflafbhfoncmaaDoor.FixM (fits)
open Go.Proofs.YtoflafbhfoncmaaDoor.MatM (M6)
open Go.Proofs.YtoflafbhfoncmaaDoor.PathM (Seg St Z segCells)
open Go.Proofs.YtoflafbhfoncmaaDoor.Path (own own_mem own_of PathIs Segs)
open Go.Proofs.YtoflafbhfoncmaaDoor.Pt (Clip clipCells Src)
set_option linter.unusedVariables false
set_option linter.unusedSimpArgs false

theorem To.gen {w w' : World} {g : Nat} {x : X} {l : Lv} (h : G w g x) (hr : Row w' g (X.cells ⟨l, x.most, x.segs, x.sv, x.saved⟩).toArray) (hc : Chg [g] w w') (hl : LO w' l) (hs : ∀ b ∈ l.bl, b ∈ x.l.bl ∨ w.heap.size ≤ b) : To w w' g x ⟨l, x.most, x.segs, x.sv, x.saved⟩ := by
  have hlt := h.lt
  obtain ⟨n1, n2⟩ := List.nodup_cons.1 h.nd
  obtain ⟨n3, n4, n5⟩ := List.nodup_append.1 n2
  have ng : ∀ b ∈ x.low, b ∉ [g] := fun b hb h2 => by
    rw [List.mem_singleton] at h2
    rw [h2] at hb
    exact n1 (List.mem_append_right _ hb)
  refine ⟨⟨hr, hl, owned_chg h.own hc (fun b hb => ng b (List.mem_append_left _ (own_mem hb))), fun l2 hl2 => (h.svs l2 hl2).chg hc (fun b hb => ng b (by simp only [X.low, List.mem_append, List.mem_flatMap]; exact Or.inr ⟨l2, hl2, hb⟩)), ?_⟩, (Chg.refl _ w).call hc (fun b hb => Or.inl (by rw [List.mem_singleton] at hb; rw [hb]; simp [X.bl])), ?_⟩
  · refine List.nodup_cons.2 ⟨fun hm => ?_, List.nodup_append.2 ⟨hl.nd, n4, fun a ha b hb e => ?_⟩⟩
    · rcases List.mem_append.1 hm with h1 | h1
      · rcases hs g h1 with h2 | h2
        · exact n1 (List.mem_append_left _ h2)
        · have := h.row.lt; omega
      · exact n1 (List.mem_append_right _ h1)
    · rcases hs a ha with h2 | h2
      · exact n5 a h2 b hb e
      · have := hlt b (List.mem_cons_of_mem _ (List.mem_append_right _ hb)); omega
  · intro b hb
    rcases List.mem_cons.1 hb with h1 | h1
    · exact Or.inl (by rw [h1]; simp [X.bl])
    rcases List.mem_append.1 h1 with h2 | h2
    · rcases hs b h2 with h3 | h3
      · exact Or.inl (List.mem_cons_of_mem _ (List.mem_append_left _ h3))
      · exact Or.inr h3
    · exact Or.inl (List.mem_cons_of_mem _ (List.mem_append_right _ h2))
/-- another dash -/
theorem To.dash {w w' : World} {g : Nat} {x : X} {v : Value} {zs : List Int} {q : Int} (h : G w g x) (hr : Row w' g (withS x { x.l.s with dv := v, ds := zs, ph := q }).cells.toArray) (hc : Chg [g] w w') (ho : w'.ownsRow 0 3 1 v zs.length (zs.map (Value.int .i64))) (hw : ∀ z ∈ zs, (Lit.int .i64 z).wf = true) (hf : ∀ b ∈ own v, w.heap.size ≤ b) : To w w' g x (withS x { x.l.s with dv := v, ds := zs, ph := q }) := by
  have hlt := h.lt
  obtain ⟨n1, n2⟩ := List.nodup_cons.1 h.nd
  obtain ⟨n3, n4, n5⟩ := List.nodup_append.1 n2
  have hn3 : (x.l.p :: (own x.l.pv ++ (own x.l.s.dv ++ (own x.l.s.cv ++ x.l.s.cl.flatMap (fun c => own c.v))))).Nodup := n3
  obtain ⟨m1, m2⟩ := List.nodup_cons.1 hn3
  obtain ⟨m3, m4, m5⟩ := List.nodup_append.1 m2
  obtain ⟨m6, m7, m8⟩ := List.nodup_append.1 m4
  have ng : ∀ b ∈ x.l.bl, b ∉ [g] := fun b hb h2 => by
    rw [List.mem_singleton] at h2
    rw [h2] at hb
    exact n1 (List.mem_append_left _ hb)
  have i1 : ∀ b ∈ own x.l.pv, b ∈ x.l.bl := fun b hb => List.mem_cons_of_mem _ (List.mem_append_left _ hb)
  have i2 : ∀ b ∈ own x.l.s.cv ++ x.l.s.cl.flatMap (fun c => own c.v), b ∈ x.l.bl := fun b hb => List.mem_cons_of_mem _ (List.mem_append_right _ (List.mem_append_right _ hb))
  have sm : ∀ b ∈ x.l.bl, b < w.heap.size := fun b hb => hlt b (List.mem_cons_of_mem _ (List.mem_append_left _ hb))
  have hp : x.l.p ∈ x.l.bl := by simp [Lv.bl]
  have nds : (own v ++ (own x.l.s.cv ++ x.l.s.cl.flatMap (fun c => own c.v))).Nodup := List.nodup_append.2 ⟨Pt.own_nodup _, m7, fun a ha b hb e => by have := hf a ha; have := sm b (i2 b hb); omega⟩
  refine To.gen h hr hc ⟨⟨ho, hw, owned_chg h.cur.s.cv hc (fun b hb => ng b (i2 b (List.mem_append_left _ (own_mem hb)))), fun c hcl => owned_chg (h.cur.s.cs c hcl) hc (fun b hb => ng b (i2 b (List.mem_append_right _ (List.mem_flatMap.2 ⟨c, hcl, own_mem hb⟩)))), nds⟩, h.cur.p.chg hc (ng _ hp) (fun b hb => ng b (i1 b (own_mem hb))), ?_⟩ (fun b hb => ?_)
  · show (x.l.p :: (own x.l.pv ++ (own v ++ (own x.l.s.cv ++ x.l.s.cl.flatMap (fun c => own c.v))))).Nodup
    refine List.nodup_cons.2 ⟨fun hm => ?_, List.nodup_append.2 ⟨m3, nds, fun a ha b hb e => ?_⟩⟩
    · rcases List.mem_append.1 hm with h1 | h1
      · exact m1 (List.mem_append_left _ h1)
      rcases List.mem_append.1 h1 with h2 | h2
      · have := hf _ h2; have := sm _ hp; omega
      · exact m1 (List.mem_append_right _ (List.mem_append_right _ h2))
    · rcases List.mem_append.1 hb with h2 | h2
      · have := hf b h2; have := sm a (i1 a ha); omega
      · exact m5 a ha b (List.mem_append_right _ h2) e
  · have hb2 : b ∈ x.l.p :: (own x.l.pv ++ (own v ++ (own x.l.s.cv ++ x.l.s.cl.flatMap (fun c => own c.v)))) := hb
    rcases List.mem_cons.1 hb2 with h1 | h1
    · exact Or.inl (by rw [h1]; exact hp)
    rcases List.mem_append.1 h1 with h2 | h2
    · exact Or.inl (i1 b h2)
    rcases List.mem_append.1 h2 with h3 | h3
    · exact Or.inr (hf b h3)
    · exact Or.inl (i2 b h3)
def dashM (zs : List Int) (q : Int) (d : GD) : GD × Int := if Gs.chk (q :: zs) = 0 then (if 11 < zs.length then (d, 9) else if q < 0 ∨ zs.any (fun n => decide (n < 0)) = true ∨ (0 < zs.length ∧ (zs.map mx).sum = 0) then (d, 11) else (d.set { d.s with ds := zs, ph := q }, 0)) else (d, 11)
set_option maxRecDepth 8000 in
theorem setDash_X (g : Nat) (x : X) (base lg N lc : Nat) (zs : List Int) (q : Int) (w : World) (h : G w g x) (hS : w.ownsRow base 3 1 (.slice (some ⟨lg, 0, none⟩) N lc) N (zs.map (Value.int .i64))) (hN : zs.length = N) (hl : N ≤ 100) (hw : ∀ z ∈ zs, (Lit.int .i64 z).wf = true) :
    Calls Tryd.prog 29 #[.pointer (some ⟨g, 0, none⟩), .slice (some ⟨lg, 0, none⟩) N lc, .int .i64 q] w fun E w' => ∃ y, E = .returned (.int .i64 (dashM zs q x.dat).2) ∧ To w w' g x y ∧ y.dat = (dashM zs q x.dat).1 := by
  subst hN
  unfold dashM
  rcases chk01 (q :: zs) with hv | hv
  · rw [if_pos hv]
    by_cases h1 : 11 < zs.length
    · rw [if_pos h1]
      refine (setDash_long x.l.s.c x.l.s.sp x.l.s.p0 x.l.s.p1 x.l.s.p2 x.l.s.p3 x.l.s.wd x.l.s.cap x.l.s.jn x.l.s.mt x.l.s.dv x.l.s.ph x.l.s.fn x.l.s.fm x.l.s.cv x.l.s.dk (.pointer (some ⟨x.l.p, 0, none⟩)) x.most x.segs x.sv g base lg zs.length lc zs q w h.row hS rfl hl hv h1).mono ?_
      rintro E w' ⟨rfl, hu⟩
      exact ⟨x, rfl, To.up h hu, rfl⟩
    · rw [if_neg h1]
      by_cases h2 : q < 0 ∨ zs.any (fun n => decide (n < 0)) = true ∨ (0 < zs.length ∧ (zs.map mx).sum = 0)
      · rw [if_pos h2]
        refine (setDash_bad x.l.s.c x.l.s.sp x.l.s.p0 x.l.s.p1 x.l.s.p2 x.l.s.p3 x.l.s.wd x.l.s.cap x.l.s.jn x.l.s.mt x.l.s.dv x.l.s.ph x.l.s.fn x.l.s.fm x.l.s.cv x.l.s.dk (.pointer (some ⟨x.l.p, 0, none⟩)) x.most x.segs x.sv g base lg zs.length lc zs q w h.row hS rfl hl hv (by omega) h2).mono ?_
        rintro E w' ⟨rfl, hu⟩
        exact ⟨x, rfl, To.up h hu, rfl⟩
      · rw [if_neg h2]
        have h3 := not_or.1 h2
        have h4 := not_or.1 h3.2
        refine (setDash_ok x.l.s.c x.l.s.sp x.l.s.p0 x.l.s.p1 x.l.s.p2 x.l.s.p3 x.l.s.wd x.l.s.cap x.l.s.jn x.l.s.mt x.l.s.dv x.l.s.ph x.l.s.fn x.l.s.fm x.l.s.cv x.l.s.dk (.pointer (some ⟨x.l.p, 0, none⟩)) x.most x.segs x.sv g base lg zs.length lc zs q w h.row hS rfl hl hv (by omega) h3.1 (by simpa using h4.1) h4.2).mono ?_
        rintro E w' ⟨a8, c8, rfl, hr, ho, hf, hc⟩
        exact ⟨withS x { x.l.s with dv := .slice a8 zs.length c8, ds := zs, ph := q }, rfl, To.dash h hr hc ho hw (fun b hb => (hf b hb).1), rfl⟩
  · rw [if_neg (by rw [hv]; decide)]
    refine (setDash_far x.l.s.c x.l.s.sp x.l.s.p0 x.l.s.p1 x.l.s.p2 x.l.s.p3 x.l.s.wd x.l.s.cap x.l.s.jn x.l.s.mt x.l.s.dv x.l.s.ph x.l.s.fn x.l.s.fm x.l.s.cv x.l.s.dk (.pointer (some ⟨x.l.p, 0, none⟩)) x.most x.segs x.sv g base lg zs.length lc zs q w h.row hS rfl hl hv).mono ?_
    rintro E w' ⟨rfl, hu⟩
    exact ⟨x, rfl, To.up h hu, rfl⟩
/-- a bound on all that states have -/
structure Inv (d : GD) : Prop where
  le : Le d.s
  les : ∀ s ∈ d.saved, Le s.1
  n : d.saved.length ≤ 1000
theorem sv_form {w : World} {g : Nat} {x : X} (h : G w g x) : ∃ so sc, x.sv = .slice so x.saved.length sc := owned_val h.own
def saveM (d : GD) : GD × Int := if d.most ≤ (d.saved.length : Int) then (d, 9) else ({ d with saved := d.saved ++ [(d.s, d.t)] }, 0)
theorem save_X (g : Nat) (x : X) (w : World) (h : G w g x) (hi : Inv x.dat) : Calls Tryd.prog 13 #[.pointer (some ⟨g, 0, none⟩)] w fun E w' => ∃ y, E = .returned (.int .i64 (saveM x.dat).2) ∧ To w w' g x y ∧ y.dat = (saveM x.dat).1 := by
  obtain ⟨so, sc, hsv⟩ := sv_form h
  have hlen : x.dat.saved.length = x.saved.length := by simp [X.dat]
  unfold saveM
  rw [hlen]
  by_cases hm : x.most ≤ (x.saved.length : Int)
  · rw [if_pos (show x.dat.most ≤ _ from hm)]
    refine (save_full g x so x.saved.length sc w h hsv hm).mono ?_
    rintro E w' ⟨rfl, hu⟩
    exact ⟨x, rfl, To.up h hu, rfl⟩
  · rw [if_neg (show ¬ x.dat.most ≤ _ from hm)]
    refine (save_ok g x so x.saved.length sc w h hsv rfl (by rw [← hlen]; exact hi.n) hm hi.le).mono ?_
    rintro E w' ⟨rfl, l, g5, c5, h1, h2, h3⟩
    refine ⟨_, rfl, h3, ?_⟩
    simp [X.dat, kept, h1, h2]
def restM (d : GD) : GD := match d.saved.getLast? with | none => d | some s => { d with s := s.1, t := s.2, saved := d.saved.dropLast }
theorem restore_X (g : Nat) (x : X) (w : World) (h : G w g x) (hi : Inv x.dat) : Calls Tryd.prog 14 #[.pointer (some ⟨g, 0, none⟩)] w fun E w' => ∃ y, E = .returned (.tuple #[]) ∧ To w w' g x y ∧ y.dat = restM x.dat := by
  have hlen : x.saved.length ≤ 1000 := by have := hi.n; simpa [X.dat] using this
  rcases List.eq_nil_or_concat x.saved with hs | ⟨init, last, hs⟩
  · obtain ⟨so, sc, hsv⟩ := sv_form h
    rw [hs] at hsv
    refine (restore_none g x so sc w h hsv).mono ?_
    rintro E w' ⟨rfl, rfl⟩
    exact ⟨x, rfl, To.refl h, by simp [restM, X.dat, hs]⟩
  · rw [List.concat_eq_append] at hs
    obtain ⟨gs, cap, hsv, _, _⟩ := World.ownsRow.form h.own (by rw [hs]; simp)
    have e : x.saved.length = init.length + 1 := by rw [hs]; simp
    rw [e] at hsv
    refine (restore_some g x gs init.length cap init last w h hsv hs rfl (by omega)).mono ?_
    rintro E w' ⟨rfl, h1⟩
    exact ⟨_, rfl, h1, by simp [restM, X.dat, hs, rest]⟩
def restAllM (d : GD) : GD := match d.saved with | [] => d | f :: _ => { d with s := f.1, t := f.2, saved := [f] }
theorem restoreAll_X (g : Nat) (x : X) (w : World) (h : G w g x) (hi : Inv x.dat) : Calls Tryd.prog 23 #[.pointer (some ⟨g, 0, none⟩)] w fun E w' => ∃ y, E = .returned (.tuple #[]) ∧ To w w' g x y ∧ y.dat = restAllM x.dat := by
  rcases hs : x.saved with _ | ⟨first, tl⟩
  · obtain ⟨so, sc, hsv⟩ := sv_form h
    rw [hs] at hsv
    refine (restoreAll_none g x so sc w h hsv).mono ?_
    rintro E w' ⟨rfl, rfl⟩
    exact ⟨x, rfl, To.refl h, by simp [restAllM, X.dat, hs]⟩
  · obtain ⟨gs, cap, hsv, _, _⟩ := World.ownsRow.form h.own (by rw [hs]; simp)
    rw [hs] at hsv
    have hle : Le first.s.dat := hi.les (first.s.dat, first.t) (by simp [X.dat, hs])
    refine (restoreAll_some g x gs _ cap first tl w h hsv hs rfl hle).mono ?_
    rintro E w' ⟨rfl, l, h1, h2, h3⟩
    exact ⟨_, rfl, h3, by simp [restAllM, X.dat, hs, allR, h1, h2]⟩
def initM (d : GD) : GD := { d with s := (initS d.s.fn d.s.fm).dat, t := ⟨d.segs, [], Z, Z⟩ }
theorem init_D (g : Nat) (x : X) (w : World) (h : G w g x) : Calls Tryd.prog 24 #[.pointer (some ⟨g, 0, none⟩)] w fun E w' => ∃ y, E = .returned (.tuple #[]) ∧ To w w' g x y ∧ y.dat = initM x.dat := by
  refine (init_X g x w h).mono ?_
  rintro E w' ⟨rfl, p, h1⟩
  exact ⟨_, rfl, h1, rfl⟩
def clipM (eo : Bool) (d : GD) : GD × Int := if 16 ≤ d.s.cl.length then (d, 9) else if d.t.l.length = 0 then (d.set { d.s with dk := true }, 0) else (d.set { d.s with cl := d.s.cl ++ [(d.t.l, eo)] }, 0)
theorem clip_X (g : Nat) (x : X) (eo : Bool) (w : World) (h : G w g x) (hi : Inv x.dat) : Calls Tryd.prog 33 #[.pointer (some ⟨g, 0, none⟩), .bool eo] w fun E w' => ∃ y, E = .returned (.int .i64 (clipM eo x.dat).2) ∧ To w w' g x y ∧ y.dat = (clipM eo x.dat).1 := by
  obtain ⟨ca, cc, hcv⟩ := owned_val h.cur.s.cv
  have hlen : x.dat.s.cl.length = x.l.s.cl.length := by simp [X.dat, S.dat]
  unfold clipM
  rw [hlen]
  by_cases hn : 16 ≤ x.l.s.cl.length
  · rw [if_pos hn]
    refine (clip_full g x ca _ cc eo w h hcv hn).mono ?_
    rintro E w' ⟨rfl, rfl⟩
    exact ⟨x, rfl, To.refl h, rfl⟩
  · rw [if_neg hn]
    by_cases ht : x.l.t.l.length = 0
    · rw [if_pos (show x.dat.t.l.length = 0 from ht)]
      refine (clip_dark g x ca _ cc eo w h hcv hn (List.eq_nil_of_length_eq_zero ht)).mono ?_
      rintro E w' ⟨rfl, hr, hc⟩
      exact ⟨withS x { x.l.s with dk := true }, rfl, To.setS h hr hc rfl rfl rfl rfl, rfl⟩
    · rw [if_neg (show ¬ x.dat.t.l.length = 0 from ht)]
      refine (clip_ok g x ca _ cc _ eo w h hcv rfl hn rfl (by omega) hi.le).mono ?_
      rintro E w' ⟨rfl, s1, v1, g5, c5, h1, h2⟩
      refine ⟨_, rfl, h2, ?_⟩
      have h3 := congrArg SD.cl h1
      simp only [S.dat] at h3
      simp [X.dat, clipped, S.dat, GD.set, h3]

end Go.Proofs.YtoflafbhfoncmaaDoor.Gt
end
