/- The reference's path that ends with a place: Current, Move. No condition. Append in a drawn region, onto a row that the call owns, whatever is appended. No program in sight; no condition. The reference's led: a place, and a distance as the matrix leads it. No condition. The reference's Lay of letters. Its condition: room on the page. -/
import Derived.Test.YtjdbefpfjhdmoaaGreatDoorGJ
import Derived.Test.YtjdbefpfjhdmoaaGreatDoorGG
import Derived.Test.YtjdbefpfjhdmoaaGreatDoorStep
import Derived.Deep.RegionLaw
import Derived.Test.YtjdbefpfjhdmoaaGreatDoorApp
import Derived.Test.YtjdbefpfjhdmoaaGreatDoorGB
namespace Go.Proofs.YtjdbefpfjhdmoaaGreatDoor.ZGC
open Go.ChangeShapes Go.WideShapes Go.ChangeAt Go.RowKit
theorem ra {w : World} {b : Nat} {cs : Array Value} (h : Row w b cs := by (repeat' (with_reducible first | assumption | (refine Row.at _ _ ?_; (simp; done)) | refine Row.alloc ?_ _ | refine Row.drew ?_ | refine Row.drewN ?_ _ | refine Row.other ?_ (by first | (simp; done) | (simp; omega) | omega) _ | refine Row.up ?_ (by assumption) | refine Row.chg ?_ (by assumption) (by first | (simp; done) | (simp; omega))))) : Row w b cs := h
theorem ca {S : List Nat} {w v : World} (h : Chg S w v := by (repeat' (first | (with_reducible first | exact Chg.refl _ _ | assumption | refine Chg.alloc ?_ _ | refine Chg.drew ?_ | refine Chg.drewN ?_ _ | refine Chg.setCell ?_ ?_ _ | refine Chg.upc ?_ (by assumption) | refine Chg.call ?_ (by assumption) ?_) | (refine ?_; (simp; done)) | (simp; done) | (simp; omega) | omega))) : Chg S w v := h
theorem ua {w v : World} (h : Up w v := by (repeat' (first | (with_reducible first | exact Up.refl _ | assumption | refine Up.alloc ?_ _ | refine Up.drew ?_ | refine Up.drewN ?_ _ | refine Up.setCell ?_ ?_ _ | refine Up.call ?_ (by assumption)) | go_size))) : Up w v := h
theorem ro {w : World} {b : Nat} {cs : Array Value} (h : Row w b cs := by apply cast; (case h => (repeat (first | (with_reducible first | assumption | (apply Row.at; (simp; done)) | apply Row.alloc | apply Row.drew | apply Row.drewN | apply Row.set) | ((with_reducible apply Row.other); (case hp => first | (simp; done) | (simp; omega) | omega))))); (case e => rfl)) : Row w b cs := h
end Go.Proofs.YtjdbefpfjhdmoaaGreatDoor.ZGC
section
namespace Go.Proofs.YtjdbefpfjhdmoaaGreatDoor.Path
open Go.Proofs.YtjdbefpfjhdmoaaGreatDoor.ZGC
open Go.ChangeShapes Go.WideShapes Go.ChangeAt Go.RowKit
open Go.Proofs.YtjdbefpfjhdmoaaGreatDoor.PathM
set_option linter.unusedVariables false
set_option linter.unusedSimpArgs false

/-- the reference's path in memory -/
structure RefIs (w : World) (b : Nat) (v : Value) (most : Int) (l : List Seg) : Prop where
  row : Row w b #[.int .i64 most, v]
  segs : Segs w v l
  len : l.length ≤ 100000000
theorem RefIs.apart {w : World} {b : Nat} {v : Value} {most : Int} {l : List Seg} (h : RefIs w b v most l) : ∀ g, v.ownBlock = some g → g ≠ b := by
  intro g hg e
  obtain ⟨ty, hb⟩ := h.row
  rcases h.segs.2 with ⟨h1, _⟩ | ⟨g', cap, cur, hv, _, hg', _, _, hs, _⟩
  · rw [h1] at hg; cases hg
  · rw [hv] at hg
    simp only [Value.ownBlock, Option.some.injEq] at hg
    subst hg e
    rw [hb] at hg'
    simp only [Option.some.injEq, Obj.cells.injEq] at hg'
    have := hg'.1
    subst this
    simp at hs
    omega
theorem RefIs.chg {S : List Nat} {w w1 : World} {b : Nat} {v : Value} {most : Int} {l : List Seg} (h : RefIs w b v most l) (hc : Chg S w w1) (hb : b ∉ S) (hn : ∀ g, v.ownBlock = some g → g ∉ S) : RefIs w1 b v most l :=
  ⟨h.row.chg hc hb, h.segs.chg hc hn, h.len⟩
theorem RefIs.up {w w1 : World} {b : Nat} {v : Value} {most : Int} {l : List Seg} (h : RefIs w b v most l) (hc : Up w w1) : RefIs w1 b v most l := h.chg (S := []) (Chg.of_up hc) (by simp) (by simp)

theorem news_at {w : World} {g : Nat} {cs : Array Value} {l : List Value} (h : Row w g cs) (e : cs.toList = l) : ∀ j u, l[j]? = some u → w.cell? ((⟨g, 0, none⟩ : Addr).add j) = some u := fun j u hu => by
  rw [add_plain, Nat.zero_add]
  exact h.cell j (by subst e; simpa using hu)
theorem made_at {w : World} {g : Nat} (e : g = w.heap.size) : (w.alloc (.cells #[] 114)).ownsRow 0 114 7 (.slice (some ⟨g, 0, none⟩) 0 0) 0 [] := by
  subst e
  exact World.ownsRow_made w #[] 0 (Nat.zero_le _) (by decide) rfl
theorem raw_up {w w1 : World} {e : TypeId} {k : Nat} {v : Value} {n : Nat} {xs : List Value} (h : w.ownsRow 0 e k v n xs) (hc : Up w w1) : w1.ownsRow 0 e k v n xs := by
  refine ⟨h.1, ?_⟩
  rcases h.2 with h1 | ⟨g, cap, cur, hv, hb, hg, hr⟩
  · exact Or.inl h1
  · refine Or.inr ⟨g, cap, cur, hv, hb, ?_, hr⟩
    rw [hc.block g (Array.getElem?_eq_some_iff.1 hg).1]
    exact hg
/-- what a call leaves of the reference's path -/
def RLeft (w : World) (b : Nat) (v : Value) (most : Int) (l : List Seg) (w' : World) : Prop := ∃ v', RefIs w' b v' most l ∧ Chg [b] w w' ∧ Own w v v'
theorem RLeft.same {w w1 : World} {b : Nat} {v : Value} {most : Int} {l : List Seg} (hu : Up w w1) (h : RefIs w b v most l) : RLeft w b v most l w1 := ⟨v, h.up hu, Chg.of_up hu, Own.refl _ _⟩
/-- a list that is new in every cell is stored -/
theorem RLeft.stored {w wa w2 : World} {b g2 c2 H : Nat} {v va : Value} {most : Int} {l l' : List Seg} (h : RefIs w b v most l) (hua : Up w wa) (hva : ∀ g, va.ownBlock = some g → w.heap.size ≤ g) (hc : Chg (own va) wa w2)
    (hat : va.ownBlock = some g2 ∨ g2 = H) (hH : wa.heap.size ≤ H) (ho : w2.ownsRow 0 114 7 (.slice (some ⟨g2, 0, none⟩) l'.length c2) l'.length (segCells l')) (hlen : l'.length ≤ 100000000) :
    RLeft w b v most l' (w2.setCell ⟨b, 1, none⟩ (.slice (some ⟨g2, 0, none⟩) l'.length c2)) := by
  have hb := h.row.lt
  have hz := hua.size
  have hgw : w.heap.size ≤ g2 := by
    rcases hat with h1 | h1
    · exact hva g2 h1
    · omega
  have hC : Chg [] w w2 := (Chg.of_up hua).call hc (fun x hx => Or.inr (hva x (own_of hx)))
  have hR : Row w2 b #[.int .i64 most, v] := h.row.chg hC (by simp)
  refine ⟨.slice (some ⟨g2, 0, none⟩) l'.length c2, ⟨Row.put hR rfl, ?_, hlen⟩, (hC.mono (by simp)).setCell (Or.inl (by simp)) _, fun g hg => Or.inr (by simp only [Value.ownBlock, Option.some.injEq] at hg; omega)⟩
  exact ownsRow_setCell_other ho (fun e => by simp only [Value.ownBlock, Option.some.injEq] at e; omega) _

theorem made_any {P : Prop} (h : P) : P := h
theorem dropLast_at {l : List Seg} {j : Nat} {u : Value} (h : (segCells l.dropLast)[j]? = some u) : (segCells l)[j]? = some u := by
  by_cases hn : l = []
  · subst hn; exact h
  · conv => lhs; rw [← List.dropLast_concat_getLast hn]
    rw [segCells_append, List.getElem?_append_left (List.getElem?_eq_some_iff.1 h).1]
    exact h

set_option maxRecDepth 8000 in
set_option maxHeartbeats 4000000 in
theorem rmove_on (b : Nat) (most : Int) (g cap k : Nat) (l : List Seg) (x y : Int) (w : World) (h : RefIs w b (.slice (some ⟨g, 0, none⟩) l.length cap) most l) (hk : l.length = k + 1) (hlen : k + 1 ≤ 1000000) (hl1 : lastK l = 1) (hf : fitsP (x, y) = true) :
    Calls Tryz.prog 22 #[.pointer (some ⟨b, 0, none⟩), .agg #[.int .i64 x, .int .i64 y]] w fun E w' => E = .returned (.int .i64 0) ∧ RLeft w b (.slice (some ⟨g, 0, none⟩) l.length cap) most (l.dropLast ++ [⟨1, (x, y), Z, Z⟩]) w' := by
  have hlt := h.row.lt
  have q0 : w.cell? ⟨b, 0, none⟩ = some (.int .i64 most) := h.row.cell 0 rfl
  have q1 : w.cell? ⟨b, 1, none⟩ = some (.slice (some ⟨g, 0, none⟩) (k + 1) cap) := by have := h.row.cell 1 rfl; rwa [hk] at this
  have f1 := h.row.free 1
  have HR := Lib.hid h
  have hg : g < w.heap.size := (h.segs.lt g rfl).2
  have hcap : k + 1 ≤ cap ∧ cap ≤ maxLen := by
    rcases h.segs.form with ⟨e, _⟩ | ⟨g', c', e, h1, h2, _⟩
    · cases e
    · injection e with _ _ e3; omega
  have hwk : IntKind.i64.wrap (k : Int) = (k : Int) := wrap_small (by omega) (by omega)
  obtain ⟨hcap1, hcap2⟩ := hcap
  have hcap3 : k ≤ cap := by omega
  have hcap4 : cap ≤ 9223372036854775807 := by unfold maxLen at hcap2; exact hcap2
  have hgs := Lib.hid h.segs
  obtain ⟨i0, ji, jz0, jz1, jz2⟩ := info_parts infoSeg
  obtain ⟨s, hsg⟩ : ∃ s, l[k]? = some s := ⟨_, List.getElem?_eq_getElem (by omega)⟩
  have c0 := h.segs.at k _ hsg 0 (by decide) _ rfl
  rw [Nat.add_zero] at c0
  have hl : lastK l = s.k := by unfold lastK; rw [List.getLast?_eq_getElem?, hk, Nat.add_sub_cancel, hsg]
  have hb1 : b < w.heap.size + 1 := by omega
  have hb2 : b < w.heap.size + 1 + 1 := by omega
  have hb3 : b < w.heap.size + 1 + 1 + 1 := by omega
  have hb4 : b < w.heap.size + 1 + 1 + 1 + 1 := by omega
  have hb5 : b < w.heap.size + 1 + 1 + 1 + 1 + 1 := by omega
  have hg1 : g < w.heap.size + 1 := by omega
  have hg2 : g < w.heap.size + 1 + 1 := by omega
  have hg3 : g < w.heap.size + 1 + 1 + 1 := by omega
  have dk : decide ((0 : Int) < (k : Int) + 1) = true := decide_eq_true (by omega)
  clear h hsg
  have HF := Lib.hid hf
  have h1 : s.k = 1 := hl.symm.trans hl1
  rw [h1] at c0
  clear hf h1 hl hl1
  go_enter Tryz.func22, Tryz.ntmps22
  go_wp2_with (go_at_call 51; ((with_reducible refine (Sh.fitsPoint_calls _ _ _).mono ?_); rintro E w1 ⟨rfl, rfl⟩; rw [HF.out]))
  go_region_law (first
    | (refine step_append_own rfl (.tmp 33) (.tmp 40) 38 rfl 0 114 i0 _ 7 56 Tryz.underlying38 ji jz0 jz1 jz2 rfl (by decide) (.slice (some ⟨w.heap.size + 1 + 1 + 1, 0, none⟩) 0 0) 0 [] rfl (made_any (by first | exact made_at (by simp) | exact raw_up (made_at (by simp)) (Up.drew (Up.refl _)) | exact raw_up (made_at (by simp)) (Up.drew (Up.alloc (Up.refl _) _)) | exact raw_up (made_at (by simp)) (Up.alloc (Up.refl _) _))) ⟨g, 0, none⟩ (k) cap (segCells l.dropLast) rfl (by rw [segCells_length]; simp [hk]) (fun j u hu => by rw [add_plain, Nat.zero_add]; exact ((show Up w _ by exact ua).cells.1 g j hg).trans (by have := hgs.out.cells (g := g) rfl j u (dropLast_at hu); rwa [add_plain, Nat.zero_add] at this)) (segCells_one _) (by unfold maxLen; omega) (by omega) (Nat.zero_le _) ?_; intro va wa hown hgr hnil hat; have HO := Lib.hid hown; have HUA := Lib.hid (show Up w wa from grown_up (by exact ua) hgr (fun k hk => by simp only [Value.ownBlock, Option.some.injEq] at hk; omega)); have hCa : Chg [w.heap.size + 1 + 1 + 1] _ wa := Chg.grown (Chg.refl _ _) hgr (fun k hk => Or.inl (by simp only [Value.ownBlock, Option.some.injEq] at hk; simp [hk])); have hza := HUA.out.size; have RS : Row wa (w.heap.size + 1 + 1) #[.int .i64 1, .int .i64 x, .int .i64 y, .int .i64 0, .int .i64 0, .int .i64 0, .int .i64 0] := Row.chg (show Row _ (w.heap.size + 1 + 1) #[.int .i64 1, .int .i64 x, .int .i64 y, .int .i64 0, .int .i64 0, .int .i64 0, .int .i64 0] by exact ra) hCa (by simp); have lRS := RS.lt; have lRS1 : w.heap.size + 1 + 1 < wa.heap.size + 1 := (by omega); have s0 : wa.cell? ⟨w.heap.size + 1 + 1, 0, none⟩ = some (.int .i64 1) := RS.cell 0 rfl; have s1 : wa.cell? ⟨w.heap.size + 1 + 1, 1, none⟩ = some (.int .i64 x) := RS.cell 1 rfl; have s2 : wa.cell? ⟨w.heap.size + 1 + 1, 2, none⟩ = some (.int .i64 y) := RS.cell 2 rfl; have s3 : wa.cell? ⟨w.heap.size + 1 + 1, 3, none⟩ = some (.int .i64 0) := RS.cell 3 rfl; have s4 : wa.cell? ⟨w.heap.size + 1 + 1, 4, none⟩ = some (.int .i64 0) := RS.cell 4 rfl; have s5 : wa.cell? ⟨w.heap.size + 1 + 1, 5, none⟩ = some (.int .i64 0) := RS.cell 5 rfl; have s6 : wa.cell? ⟨w.heap.size + 1 + 1, 6, none⟩ = some (.int .i64 0) := RS.cell 6 rfl; have HA := Lib.hid (show ∀ g, va.ownBlock = some g → w.heap.size ≤ g from fun g hg => by rcases hat with h1 | h1; (rw [h1] at hg; simp only [Value.ownBlock, Option.some.injEq] at hg; omega); (rw [h1] at hg; simp at hg; omega)); clear hown hgr hnil hat)
    | (refine step_append_own rfl (.tmp 33) (.tmp 40) 38 rfl 0 114 i0 _ 7 56 Tryz.underlying38 ji jz0 jz1 jz2 rfl (by decide) (.slice (some ⟨w.heap.size + 1 + 1 + 1 + 1, 0, none⟩) 0 0) 0 [] rfl (made_any (by first | exact made_at (by simp) | exact raw_up (made_at (by simp)) (Up.drew (Up.refl _)) | exact raw_up (made_at (by simp)) (Up.drew (Up.alloc (Up.refl _) _)) | exact raw_up (made_at (by simp)) (Up.alloc (Up.refl _) _))) ⟨g, 0, none⟩ (k) cap (segCells l.dropLast) rfl (by rw [segCells_length]; simp [hk]) (fun j u hu => by rw [add_plain, Nat.zero_add]; exact ((show Up w _ by exact ua).cells.1 g j hg).trans (by have := hgs.out.cells (g := g) rfl j u (dropLast_at hu); rwa [add_plain, Nat.zero_add] at this)) (segCells_one _) (by unfold maxLen; omega) (by omega) (Nat.zero_le _) ?_; intro va wa hown hgr hnil hat; have HO := Lib.hid hown; have HUA := Lib.hid (show Up w wa from grown_up (by exact ua) hgr (fun k hk => by simp only [Value.ownBlock, Option.some.injEq] at hk; omega)); have hCa : Chg [w.heap.size + 1 + 1 + 1 + 1] _ wa := Chg.grown (Chg.refl _ _) hgr (fun k hk => Or.inl (by simp only [Value.ownBlock, Option.some.injEq] at hk; simp [hk])); have hza := HUA.out.size; have RS : Row wa (w.heap.size + 1 + 1) #[.int .i64 1, .int .i64 x, .int .i64 y, .int .i64 0, .int .i64 0, .int .i64 0, .int .i64 0] := Row.chg (show Row _ (w.heap.size + 1 + 1) #[.int .i64 1, .int .i64 x, .int .i64 y, .int .i64 0, .int .i64 0, .int .i64 0, .int .i64 0] by exact ra) hCa (by simp); have lRS := RS.lt; have lRS1 : w.heap.size + 1 + 1 < wa.heap.size + 1 := (by omega); have s0 : wa.cell? ⟨w.heap.size + 1 + 1, 0, none⟩ = some (.int .i64 1) := RS.cell 0 rfl; have s1 : wa.cell? ⟨w.heap.size + 1 + 1, 1, none⟩ = some (.int .i64 x) := RS.cell 1 rfl; have s2 : wa.cell? ⟨w.heap.size + 1 + 1, 2, none⟩ = some (.int .i64 y) := RS.cell 2 rfl; have s3 : wa.cell? ⟨w.heap.size + 1 + 1, 3, none⟩ = some (.int .i64 0) := RS.cell 3 rfl; have s4 : wa.cell? ⟨w.heap.size + 1 + 1, 4, none⟩ = some (.int .i64 0) := RS.cell 4 rfl; have s5 : wa.cell? ⟨w.heap.size + 1 + 1, 5, none⟩ = some (.int .i64 0) := RS.cell 5 rfl; have s6 : wa.cell? ⟨w.heap.size + 1 + 1, 6, none⟩ = some (.int .i64 0) := RS.cell 6 rfl; have HA := Lib.hid (show ∀ g, va.ownBlock = some g → w.heap.size ≤ g from fun g hg => by rcases hat with h1 | h1; (rw [h1] at hg; simp only [Value.ownBlock, Option.some.injEq] at hg; omega); (rw [h1] at hg; simp at hg; omega)); clear hown hgr hnil hat)
    | (refine step_append_lies _ rfl (.tmp 41) (.tmp 43) 38 rfl 0 114 i0 _ 7 56 Tryz.underlying38 ji jz0 jz1 jz2 rfl (by decide) va (0 + (k)) ([] ++ segCells l.dropLast) rfl (raw_up HO.out (by exact ua)) _ 1 1 (segCells [⟨1, (x, y), Z, Z⟩]) rfl rfl (news_at (show Row _ _ #[.int .i64 1, .int .i64 x, .int .i64 y, .int .i64 0, .int .i64 0, .int .i64 0, .int .i64 0] by exact ra) rfl) (segCells_one _) (by decide) (by unfold maxLen; omega) (by omega) (Nat.zero_le _) _ rfl ?_; intro g2 c2 w2 hown hgr hat hg1; have hC2 : Chg (own va) wa w2 := Chg.grown (Chg.of_up (by exact ua)) hgr (fun k hk => Or.inl (own_mem hk)); have hCw : Chg [] w w2 := (Chg.of_up HUA.out).call hC2 (fun x hx => Or.inr (HA.out x (own_of hx))); have hRw := HR.out.row.chg hCw (by simp); have z1 : w2.cell? ⟨b, 1, none⟩ = some (.slice (some ⟨g, 0, none⟩) l.length cap) := hRw.cell 1 rfl; have zf := hRw.free 1; have HOW := Lib.hid hown; have HAT := Lib.hid hat; have HC2 := Lib.hid hC2; clear hown hat hC2 hgr hCw hRw))
  all_goals go_wp2
  all_goals
    go_ret
    refine ⟨rfl, ?_⟩
    have e : (l.dropLast ++ ([⟨1, (x, y), Z, Z⟩] : List Seg)).length = k + 1 := by simp [hk]
    have hw := HOW.out
    rw [List.nil_append, Nat.zero_add, ← segCells_append, ← e] at hw
    have := RLeft.stored HR.out HUA.out HA.out HC2.out HAT.out (by simp) hw (by omega)
    rw [e] at this
    exact this

theorem results_cur (tmps : Array Value) (w : World) (b2 : Nat) (x y : Int) (t : Bool) (h2 : Row w b2 #[.int .i64 x, .int .i64 y]) (e2 : tmps[2]?.getD undef = .pointer (some ⟨b2, 0, none⟩)) (e3 : tmps[3]?.getD undef = .bool t) :
    (results Tryz.f29 tmps).run Tryz.prog w = .ok (.tuple #[.agg #[.int .i64 x, .int .i64 y], .bool t]) w := by
  have c0 := h2.cell 0 rfl
  have c1 := h2.cell 1 rfl
  simp [results, Tryz.results29, go_sem, e2, e3, c0, c1]
set_option maxRecDepth 8000 in
set_option maxHeartbeats 1000000 in
theorem rcurs_empty (b : Nat) (a : Option Addr) (c : Nat) (w : World) (hlt : b < w.heap.size) (q1 : w.cell? ⟨b, 27, none⟩ = some (.slice a 0 c)) :
    Calls Tryz.prog 29 #[.pointer (some ⟨b, 26, none⟩)] w fun E w' => E = .returned (.tuple #[.agg #[.int .i64 0, .int .i64 0], .bool false]) ∧ Up w w' := by
  have hb1 : b < w.heap.size + 1 := by omega
  go_enter Tryz.func29, Tryz.ntmps29
  go_wp2
  (try simp only [Exit.inBlock, Exit.then])
  refine bodyPost_ret (results_cur _ _ w.heap.size 0 0 false (by exact ro) rfl rfl) rfl ?_
  exact ⟨rfl, by exact ua⟩
set_option maxRecDepth 8000 in
set_option maxHeartbeats 2000000 in
theorem rcurs_calls (b g cap : Nat) (x y : Int) (w : World) (hlt : b < w.heap.size) (q1 : w.cell? ⟨b, 27, none⟩ = some (.slice (some ⟨g, 0, none⟩) 1 cap)) (h : Segs w (.slice (some ⟨g, 0, none⟩) ([⟨1, (x, y), Z, Z⟩] : List Seg).length cap) [⟨1, (x, y), Z, Z⟩]) :
    Calls Tryz.prog 29 #[.pointer (some ⟨b, 26, none⟩)] w fun E w' => E = .returned (.tuple #[.agg #[.int .i64 x, .int .i64 y], .bool true]) ∧ Up w w' := by
  have hg : g < w.heap.size := by
    rcases h.form with ⟨e, _⟩ | ⟨g', c', e, _, _, h1⟩
    · cases e
    · injection e with e1 _ _; injection e1 with e1; injection e1 with e1 _ _; omega
  have c0 := h.at 0 _ rfl 0 (by decide) _ rfl
  have c1 := h.at 0 _ rfl 1 (by decide) _ rfl
  have c2 := h.at 0 _ rfl 2 (by decide) _ rfl
  have c3 := h.at 0 _ rfl 3 (by decide) _ rfl
  have c4 := h.at 0 _ rfl 4 (by decide) _ rfl
  have c5 := h.at 0 _ rfl 5 (by decide) _ rfl
  have c6 := h.at 0 _ rfl 6 (by decide) _ rfl
  simp only [Nat.zero_mul, Nat.zero_add] at c0 c1 c2 c3 c4 c5 c6
  (try dsimp only at c0 c1 c2 c3 c4 c5 c6)
  have hb1 : b < w.heap.size + 1 := by omega
  have hb2 : b < w.heap.size + 1 + 1 := by omega
  have hg1 : g < w.heap.size + 1 := by omega
  have hg2 : g < w.heap.size + 1 + 1 := by omega
  clear h
  go_enter Tryz.func29, Tryz.ntmps29
  go_wp2
  go_region
  all_goals go_wp2
  all_goals (try simp only [Exit.inBlock, Exit.then])
  all_goals refine bodyPost_ret (results_cur _ _ w.heap.size x y true (by exact ro) rfl rfl) rfl ?_
  all_goals exact ⟨rfl, by exact ua⟩

end Go.Proofs.YtjdbefpfjhdmoaaGreatDoor.Path
end

section
namespace Go.Proofs.YtjdbefpfjhdmoaaGreatDoor
open Go.Proofs.YtjdbefpfjhdmoaaGreatDoor.ZGC
open Go.RowKit

theorem step_append_any {P : Program} {w : World} {ops : Array Oper} {o : Oper} {a : Act} {K : Act → World → Prop} {Q : Exit → Act → World → Prop} {E : Prop} (hgd : o.guard = none) (s x : Operand) (t : TypeId)
    (ho : o.op = .call { callee := .builtin .append, args := #[s, x], argTypes := #[t, t] })
    (base : Nat) (e : TypeId) (i : TypeInfo) (z : Value) (size bytes : Nat) (ht : P.underlying t = some (.slice e)) (hi : P.info? e = some i) (hz : i.zero = some z)
    (hsize : i.size = size) (hby : i.bytes = bytes) (hzs : z.cells.size = size) (hsz : 0 < size)
    (v : Value) (n : Nat) (xs : List Value) (hs : a.eval s = v) (hown : w.ownsRow base e size v n xs)
    (ao : Option Addr) (m c : Nat) (news : List Value) (hx : a.eval x = .slice ao m c) (hl : news.length = m * size) (hnone : ao = none → m = 0 ∧ c = 0) (hnews : ∀ ad, ao = some ad → ∀ j u, news[j]? = some u → w.cell? (ad.add j) = some u) (h1 : ∀ u ∈ news, u.oneCell' = true)
    (h63 : n + m ≤ maxLen) (hbytes : (n + m) * bytes ≤ 140737488355328) (hbase : base ≤ w.heap.size)
    (hK : ∀ v' w', w'.ownsRow base e size v' (n + m) (xs ++ news) → w.grownBy w' v.ownBlock → K (a.put o.dst v') w') :
    if Region.wanted o (yielded ops a.tmps) = true then Oper.wp P o a w K Q else E := by
  cases ao with
  | some ad => exact step_append_own hgd s x t ho base e i z size bytes ht hi hz hsize hby hzs hsz v n xs hs hown ad m c news hx hl (hnews ad rfl) h1 h63 hbytes hbase (fun v' w' h2 h3 _ _ => hK v' w' h2 h3)
  | none =>
    obtain ⟨rfl, rfl⟩ := hnone rfl
    have hnews : news = [] := List.eq_nil_of_length_eq_zero (by simpa using hl)
    subst hnews
    rw [if_pos (by simp [Region.wanted, hgd])]
    have hrun := run_append_owned_none (P := P) (w := w) base t o.type e i size ht hi v n xs hown
    unfold Oper.wp
    simp [execOp, ho, resolve, invoke, builtin, hs, hx, hrun, Result.andThen]
    exact hK _ _ (by simpa using hown) (World.grownBy.refl _ _)

end Go.Proofs.YtjdbefpfjhdmoaaGreatDoor
end

section
namespace Go.Proofs.YtjdbefpfjhdmoaaGreatDoor.Sh
open List renaming getElem_toArray → lga, getElem_cons_zero → lgz, getElem_cons_succ → lgs, setIfInBounds_toArray → lsa, set_cons_zero → lsz, set_cons_succ → lss
open Go.Proofs.YtjdbefpfjhdmoaaGreatDoor.ZGC
open Go.ChangeShapes Go.WideShapes Go.ChangeAt Go.RowKit
open Go.Proofs.YtjdbefpfjhdmoaaGreatDoor.Gs
open Go.Proofs.YtjdbefpfjhdmoaaGreatDoor.FixM (fits add)
open Go.Proofs.YtjdbefpfjhdmoaaGreatDoor.MatM (M6 delta keep)
set_option linter.unusedVariables false
set_option linter.unusedSimpArgs false


theorem s8_of {w0 w : World} {s : Nat} {C : M6} {F : Int} {FM : M6} {dk : Bool} {n bx bz : Int} {vl : Value} (h : Row w s (rsC C F FM dk n vl)) (h2 : Row w (w0.heap.size + 1) #[.int .i64 bx, .int .i64 bz]) : w.cell? ⟨s, 0, none⟩ = some (.int .i64 C.a) ∧ w.cell? ⟨s, 1, none⟩ = some (.int .i64 C.b) ∧ w.cell? ⟨s, 2, none⟩ = some (.int .i64 C.c) ∧ w.cell? ⟨s, 3, none⟩ = some (.int .i64 C.d) ∧ w.cell? ⟨s, 4, none⟩ = some (.int .i64 C.x) ∧ w.cell? ⟨s, 5, none⟩ = some (.int .i64 C.y) ∧ w.cell? ⟨w0.heap.size + 1, 0, none⟩ = some (.int .i64 bx) ∧ w.cell? ⟨w0.heap.size + 1, 1, none⟩ = some (.int .i64 bz) := ⟨h.cell 0 rfl, h.cell 1 rfl, h.cell 2 rfl, h.cell 3 rfl, h.cell 4 rfl, h.cell 5 rfl, h2.cell 0 rfl, h2.cell 1 rfl⟩

set_option maxRecDepth 8000 in
set_option maxHeartbeats 4000000 in
theorem led_bad (s : Nat) (C : M6) (F : Int) (FM : M6) (dk : Bool) (n : Int) (vl : Value) (ax ay bx bz : Int) (w : World) (h : Row w s (rsC C F FM dk n vl)) (dx dz : Int) (de : Int) (hD : delta C.a C.b C.c C.d bx bz = ((dx, dz), de)) (h0 : de ≠ 0) :
    Calls Tryz.prog 31 #[.pointer (some ⟨s, 0, none⟩), .agg #[.int .i64 ax, .int .i64 ay], .agg #[.int .i64 bx, .int .i64 bz]] w fun E w' => E = ptE (movedR C ax ay bx bz) ∧ Up w w' := by
  have HR := Lib.hid h
  have HLS := Lib.hid h.lt
  have ls := h.lt
  clear h
  have HE := Lib.hid (show movedR C ax ay bx bz = ((0, 0), de) by unfold movedR; rw [hD, if_neg h0])
  have HD := Lib.hid hD
  have t1 : (de == 0) = false := by simpa using h0
  clear hD h0
  go_enter Tryz.func31, Tryz.ntmps31
  go_wp2
  refine wp_region_held_drew (S := fun w' => w'.cell? ⟨s, 0, none⟩ = some (.int .i64 C.a) ∧ w'.cell? ⟨s, 1, none⟩ = some (.int .i64 C.b) ∧ w'.cell? ⟨s, 2, none⟩ = some (.int .i64 C.c) ∧ w'.cell? ⟨s, 3, none⟩ = some (.int .i64 C.d) ∧ w'.cell? ⟨s, 4, none⟩ = some (.int .i64 C.x) ∧ w'.cell? ⟨s, 5, none⟩ = some (.int .i64 C.y) ∧ w'.cell? ⟨w.heap.size + 1, 0, none⟩ = some (.int .i64 bx) ∧ w'.cell? ⟨w.heap.size + 1, 1, none⟩ = some (.int .i64 bz)) (by kernel_rfl) ?_ (fun hHeld => ?_)
  · exact s8_of (show Row _ s (rsC C F FM dk n vl) from (by have hrr := HR.out; exact ra)) (show Row _ (w.heap.size + 1) #[.int .i64 bx, .int .i64 bz] from (by exact ra))
  refine wpAnyH_take (i := 0) (v := ?_) rfl (by kernel_rfl) (by kernel_rfl) (by kernel_rfl) (fun _ _ _ h => h) (Or.inl ⟨by rfl, ?_⟩) (by assumption) ?_
  rotate_left
  · intro w2 hSw
    (try dsimp only at hSw)
    obtain ⟨s0, s1, s2, s3, s4, s5, s6, s7⟩ := hSw
    go_simp
    (try (with_reducible rfl))
  (try simp only [Act.put, lga, lgz, lgs, lsa, lsz, lss])
  refine wpAnyH_take (i := 1) (v := ?_) rfl (by kernel_rfl) (by kernel_rfl) (by kernel_rfl) (fun _ _ _ h => h) (Or.inl ⟨by rfl, ?_⟩) (by assumption) ?_
  rotate_left
  · intro w2 hSw
    (try dsimp only at hSw)
    obtain ⟨s0, s1, s2, s3, s4, s5, s6, s7⟩ := hSw
    go_simp
    (try (with_reducible rfl))
  (try simp only [Act.put, lga, lgz, lgs, lsa, lsz, lss])
  refine wpAnyH_take (i := 2) (v := ?_) rfl (by kernel_rfl) (by kernel_rfl) (by kernel_rfl) (fun _ _ _ h => h) (Or.inl ⟨by rfl, ?_⟩) (by assumption) ?_
  rotate_left
  · intro w2 hSw
    (try dsimp only at hSw)
    obtain ⟨s0, s1, s2, s3, s4, s5, s6, s7⟩ := hSw
    go_simp
    (try (with_reducible rfl))
  (try simp only [Act.put, lga, lgz, lgs, lsa, lsz, lss])
  refine wpAnyH_take (i := 3) (v := ?_) rfl (by kernel_rfl) (by kernel_rfl) (by kernel_rfl) (fun _ _ _ h => h) (Or.inl ⟨by rfl, ?_⟩) (by assumption) ?_
  rotate_left
  · intro w2 hSw
    (try dsimp only at hSw)
    obtain ⟨s0, s1, s2, s3, s4, s5, s6, s7⟩ := hSw
    go_simp
    (try (with_reducible rfl))
  (try simp only [Act.put, lga, lgz, lgs, lsa, lsz, lss])
  refine wpAnyH_take (i := 4) (v := ?_) rfl (by kernel_rfl) (by kernel_rfl) (by kernel_rfl) (fun _ _ _ h => h) (Or.inl ⟨by rfl, ?_⟩) (by assumption) ?_
  rotate_left
  · intro w2 hSw
    (try dsimp only at hSw)
    obtain ⟨s0, s1, s2, s3, s4, s5, s6, s7⟩ := hSw
    go_simp
    (try (with_reducible rfl))
  (try simp only [Act.put, lga, lgz, lgs, lsa, lsz, lss])
  refine wpAnyH_ready (rs := [5, 9]) (by decide +kernel) (by simp) ?_
  refine AllReadyH.cons rfl (fun K hK => ?_) (AllReadyH.cons rfl (fun K hK => ?_) (AllReadyH.nil))
  · skip
    (try simp only [lga, lgz, lgs])
    (go_simp; go_at_call 66; (with_reducible refine (Rmat.delta_calls C.a C.b C.c C.d C.x C.y bx bz _).mono ?_); rw [HD.out]; rintro E w1 ⟨rfl, hu1⟩; have z1 := hu1.size; (try simp at z1); have RS1 : Row w1 s (rsC C F FM dk n vl) := HR.out.up (show Up w w1 by exact ua); have RA1 : Row w1 w.heap.size #[.int .i64 ax, .int .i64 ay] := Row.up (show Row _ w.heap.size #[.int .i64 ax, .int .i64 ay] by exact ra) hu1; have RB1 : Row w1 (w.heap.size + 1) #[.int .i64 bx, .int .i64 bz] := Row.up (show Row _ (w.heap.size + 1) #[.int .i64 bx, .int .i64 bz] by exact ra) hu1; have RP1 : Row w1 (w.heap.size + 1 + 1) #[.int .i64 0, .int .i64 0] := Row.up (show Row _ (w.heap.size + 1 + 1) #[.int .i64 0, .int .i64 0] by exact ra) hu1;  have u1 : Up w w1 := (by exact ua); (try dsimp only))
    refine hK.out _ _ ?_ (fun hHeld => ?_)
    · exact s8_of (RS1) (RB1)
    clear hK K
    (try simp only [Act.put, lga, lgz, lgs, lsa, lsz, lss])
    refine wpAnyH_take (i := 6) (v := ?_) rfl (by kernel_rfl) (by kernel_rfl) (by kernel_rfl) (fun _ _ _ h => h) (Or.inl ⟨by rfl, ?_⟩) (by assumption) ?_
    rotate_left
    · intro w2 hSw
      (try dsimp only at hSw)
      obtain ⟨s0, s1, s2, s3, s4, s5, s6, s7⟩ := hSw
      go_simp
      (try (with_reducible rfl))
    (try simp only [Act.put, lga, lgz, lgs, lsa, lsz, lss])
    refine wpAnyH_take (i := 7) (v := ?_) rfl (by kernel_rfl) (by kernel_rfl) (by kernel_rfl) (fun _ _ _ h => h) (Or.inl ⟨by rfl, ?_⟩) (by assumption) ?_
    rotate_left
    · intro w2 hSw
      (try dsimp only at hSw)
      obtain ⟨s0, s1, s2, s3, s4, s5, s6, s7⟩ := hSw
      go_simp
      (try (with_reducible rfl))
    (try simp only [Act.put, lga, lgz, lgs, lsa, lsz, lss])
    refine wpAnyH_take (i := 8) (v := ?_) rfl (by kernel_rfl) (by kernel_rfl) (by kernel_rfl) (fun _ _ _ h => h) (Or.inl ⟨by rfl, ?_⟩) (by assumption) ?_
    rotate_left
    · intro w2 hSw
      (try dsimp only at hSw)
      obtain ⟨s0, s1, s2, s3, s4, s5, s6, s7⟩ := hSw
      go_simp
      (try (with_reducible rfl))
    (try simp only [Act.put, lga, lgz, lgs, lsa, lsz, lss])
    refine wpAnyH_ready (rs := [9]) (by decide +kernel) (by simp) ?_
    refine AllReadyH.cons rfl (fun K hK => ?_) (AllReadyH.nil)
    (try simp only [lga, lgz, lgs])
    (go_simp)
    refine hK.out _ _ ?_ (fun hHeld => ?_)
    · exact s8_of (RS1.alloc _) (RB1.alloc _)
    clear hK K
    (try simp only [Act.put, lga, lgz, lgs, lsa, lsz, lss])
    refine wpAnyH_ready (rs := [10]) (by decide +kernel) (by simp) ?_
    refine AllReadyH.cons rfl (fun K hK => ?_) (AllReadyH.nil)
    (try simp only [lga, lgz, lgs])
    (go_simp)
    refine hK.out _ _ ?_ (fun hHeld => ?_)
    · exact s8_of (show Row _ s (rsC C F FM dk n vl) from (by exact ra)) (show Row _ (w.heap.size + 1) #[.int .i64 bx, .int .i64 bz] from (by exact ra))
    clear hK K
    (try simp only [Act.put, lga, lgz, lgs, lsa, lsz, lss])
    refine wpAnyH_take (i := 11) (v := ?_) rfl (by kernel_rfl) (by kernel_rfl) (by kernel_rfl) (fun _ _ _ h => h) (Or.inl ⟨by rfl, ?_⟩) (by assumption) ?_
    rotate_left
    · intro w2 hSw
      (try dsimp only at hSw)
      obtain ⟨s0, s1, s2, s3, s4, s5, s6, s7⟩ := hSw
      go_simp
      (try (with_reducible rfl))
    (try simp only [Act.put, lga, lgz, lgs, lsa, lsz, lss])
    refine wpAnyH_done (by kernel_rfl) ?_ _
    (try dsimp only)
    generalize hW : World.alloc w1 _ = wR
    have RA : Row wR w.heap.size #[.int .i64 ax, .int .i64 ay] := by rw [← hW]; exact (by exact ro)
    have RP : Row wR (w.heap.size + 1 + 1) #[.int .i64 0, .int .i64 0] := by rw [← hW]; exact (by exact ro)
    have RD : Row wR w1.heap.size #[.int .i64 dx, .int .i64 dz] := by rw [← hW]; first | exact Row.made _ _ _ | exact (by exact ro)
    have uR : Up w wR := by rw [← hW]; exact (show Chg [] w _ from by (repeat' (first | (with_reducible first | exact Chg.refl _ _ | assumption | refine Chg.alloc ?_ _ | refine Chg.drew ?_ | refine Chg.drewN ?_ _ | refine Chg.setCell ?_ ?_ _ | refine Chg.upc ?_ (by assumption) | refine Chg.call ?_ (by assumption) ?_) | (refine Or.inl ?_; (simp; done)) | (simp; done) | (simp; omega) | omega))).up
    have zR := uR.size
    have lA := RA.lt
    have lP := RP.lt
    have lD := RD.lt
    have lA1 : w.heap.size < wR.heap.size + 1 := by omega
    have lP1 : w.heap.size + 1 + 1 < wR.heap.size + 1 := by omega
    have lD1 : w1.heap.size < wR.heap.size + 1 := by omega
    have cRA_0 : wR.cell? ⟨w.heap.size, 0, none⟩ = some (.int .i64 ax) := RA.cell 0 rfl; have fRA_0 := RA.free 0; have cRA_1 : wR.cell? ⟨w.heap.size, 1, none⟩ = some (.int .i64 ay) := RA.cell 1 rfl; have fRA_1 := RA.free 1; have cRP_0 : wR.cell? ⟨w.heap.size + 1 + 1, 0, none⟩ = some (.int .i64 0) := RP.cell 0 rfl; have fRP_0 := RP.free 0; have cRP_1 : wR.cell? ⟨w.heap.size + 1 + 1, 1, none⟩ = some (.int .i64 0) := RP.cell 1 rfl; have fRP_1 := RP.free 1; have cRD_0 : wR.cell? ⟨w1.heap.size, 0, none⟩ = some (.int .i64 dx) := RD.cell 0 rfl; have fRD_0 := RD.free 0; have cRD_1 : wR.cell? ⟨w1.heap.size, 1, none⟩ = some (.int .i64 dz) := RD.cell 1 rfl; have fRD_1 := RD.free 1
    clear hW hHeld
    go_wp2
    all_goals (try simp only [Exit.inBlock, Exit.then])
    all_goals refine bodyPost_ret (results_ptij rfl _ _ (w.heap.size + 1 + 1) 0 0 de (show Row _ (w.heap.size + 1 + 1) #[.int .i64 0, .int .i64 0] from (by exact ro)) rfl rfl) rfl ?_
    all_goals exact ⟨by rw [HE.out], (show Chg [] w _ from by (repeat' (first | (with_reducible first | exact Chg.refl _ _ | assumption | refine Chg.alloc ?_ _ | refine Chg.drew ?_ | refine Chg.drewN ?_ _ | refine Chg.setCell ?_ ?_ _ | refine Chg.upc ?_ (by assumption) | refine Chg.call ?_ (by assumption) ?_) | (refine Or.inl ?_; (simp; done)) | (simp; done) | (simp; omega) | omega))).up⟩
  · skip
    (try simp only [lga, lgz, lgs])
    (go_simp)
    refine hK.out _ _ ?_ (fun hHeld => ?_)
    · exact s8_of (show Row _ s (rsC C F FM dk n vl) from (by have hrr := HR.out; exact ra)) (show Row _ (w.heap.size + 1) #[.int .i64 bx, .int .i64 bz] from (by exact ra))
    clear hK K
    (try simp only [Act.put, lga, lgz, lgs, lsa, lsz, lss])
    refine wpAnyH_ready (rs := [5]) (by decide +kernel) (by simp) ?_
    refine AllReadyH.cons rfl (fun K hK => ?_) (AllReadyH.nil)
    (try simp only [lga, lgz, lgs])
    (go_simp; go_at_call 66; (with_reducible refine (Rmat.delta_calls C.a C.b C.c C.d C.x C.y bx bz _).mono ?_); rw [HD.out]; rintro E w1 ⟨rfl, hu1⟩; have z1 := hu1.size; (try simp at z1); have RS1 : Row w1 s (rsC C F FM dk n vl) := HR.out.up (show Up w w1 by exact ua); have RA1 : Row w1 w.heap.size #[.int .i64 ax, .int .i64 ay] := Row.up (show Row _ w.heap.size #[.int .i64 ax, .int .i64 ay] by exact ra) hu1; have RB1 : Row w1 (w.heap.size + 1) #[.int .i64 bx, .int .i64 bz] := Row.up (show Row _ (w.heap.size + 1) #[.int .i64 bx, .int .i64 bz] by exact ra) hu1; have RP1 : Row w1 (w.heap.size + 1 + 1) #[.int .i64 0, .int .i64 0] := Row.up (show Row _ (w.heap.size + 1 + 1) #[.int .i64 0, .int .i64 0] by exact ra) hu1; have RD1 : Row w1 (w.heap.size + 1 + 1 + 1) #[.int .i64 0, .int .i64 0] := Row.up (show Row _ (w.heap.size + 1 + 1 + 1) #[.int .i64 0, .int .i64 0] by exact ra) hu1; have lrd := RD1.lt; have cRD1_0 : w1.cell? ⟨w.heap.size + 1 + 1 + 1, 0, none⟩ = some (.int .i64 0) := RD1.cell 0 rfl; have fRD1_0 := RD1.free 0; have cRD1_1 : w1.cell? ⟨w.heap.size + 1 + 1 + 1, 1, none⟩ = some (.int .i64 0) := RD1.cell 1 rfl; have fRD1_1 := RD1.free 1;  have u1 : Up w w1 := (by exact ua); (try dsimp only))
    refine hK.out _ _ ?_ (fun hHeld => ?_)
    · exact s8_of (RS1) (RB1)
    clear hK K
    (try simp only [Act.put, lga, lgz, lgs, lsa, lsz, lss])
    refine wpAnyH_take (i := 6) (v := ?_) rfl (by kernel_rfl) (by kernel_rfl) (by kernel_rfl) (fun _ _ _ h => h) (Or.inl ⟨by rfl, ?_⟩) (by assumption) ?_
    rotate_left
    · intro w2 hSw
      (try dsimp only at hSw)
      obtain ⟨s0, s1, s2, s3, s4, s5, s6, s7⟩ := hSw
      go_simp
      (try (with_reducible rfl))
    (try simp only [Act.put, lga, lgz, lgs, lsa, lsz, lss])
    refine wpAnyH_take (i := 7) (v := ?_) rfl (by kernel_rfl) (by kernel_rfl) (by kernel_rfl) (fun _ _ _ h => h) (Or.inl ⟨by rfl, ?_⟩) (by assumption) ?_
    rotate_left
    · intro w2 hSw
      (try dsimp only at hSw)
      obtain ⟨s0, s1, s2, s3, s4, s5, s6, s7⟩ := hSw
      go_simp
      (try (with_reducible rfl))
    (try simp only [Act.put, lga, lgz, lgs, lsa, lsz, lss])
    refine wpAnyH_take (i := 8) (v := ?_) rfl (by kernel_rfl) (by kernel_rfl) (by kernel_rfl) (fun _ _ _ h => h) (Or.inl ⟨by rfl, ?_⟩) (by assumption) ?_
    rotate_left
    · intro w2 hSw
      (try dsimp only at hSw)
      obtain ⟨s0, s1, s2, s3, s4, s5, s6, s7⟩ := hSw
      go_simp
      (try (with_reducible rfl))
    (try simp only [Act.put, lga, lgz, lgs, lsa, lsz, lss])
    refine wpAnyH_ready (rs := [10]) (by decide +kernel) (by simp) ?_
    refine AllReadyH.cons rfl (fun K hK => ?_) (AllReadyH.nil)
    (try simp only [lga, lgz, lgs])
    (go_simp)
    refine hK.out _ _ ?_ (fun hHeld => ?_)
    · exact s8_of (show Row _ s (rsC C F FM dk n vl) from (by exact ra)) (show Row _ (w.heap.size + 1) #[.int .i64 bx, .int .i64 bz] from (by exact ra))
    clear hK K
    (try simp only [Act.put, lga, lgz, lgs, lsa, lsz, lss])
    refine wpAnyH_take (i := 11) (v := ?_) rfl (by kernel_rfl) (by kernel_rfl) (by kernel_rfl) (fun _ _ _ h => h) (Or.inl ⟨by rfl, ?_⟩) (by assumption) ?_
    rotate_left
    · intro w2 hSw
      (try dsimp only at hSw)
      obtain ⟨s0, s1, s2, s3, s4, s5, s6, s7⟩ := hSw
      go_simp
      (try (with_reducible rfl))
    (try simp only [Act.put, lga, lgz, lgs, lsa, lsz, lss])
    refine wpAnyH_done (by kernel_rfl) ?_ _
    (try dsimp only)
    generalize hW : World.setCell (World.setCell _ _ _) _ _ = wR
    have RA : Row wR w.heap.size #[.int .i64 ax, .int .i64 ay] := by rw [← hW]; exact (by exact ro)
    have RP : Row wR (w.heap.size + 1 + 1) #[.int .i64 0, .int .i64 0] := by rw [← hW]; exact (by exact ro)
    have RD : Row wR (w.heap.size + 1 + 1 + 1) #[.int .i64 dx, .int .i64 dz] := by rw [← hW]; first | exact Row.made _ _ _ | exact (by exact ro)
    have uR : Up w wR := by rw [← hW]; exact (show Chg [] w _ from by (repeat' (first | (with_reducible first | exact Chg.refl _ _ | assumption | refine Chg.alloc ?_ _ | refine Chg.drew ?_ | refine Chg.drewN ?_ _ | refine Chg.setCell ?_ ?_ _ | refine Chg.upc ?_ (by assumption) | refine Chg.call ?_ (by assumption) ?_) | (refine Or.inl ?_; (simp; done)) | (simp; done) | (simp; omega) | omega))).up
    have zR := uR.size
    have lA := RA.lt
    have lP := RP.lt
    have lD := RD.lt
    have lA1 : w.heap.size < wR.heap.size + 1 := by omega
    have lP1 : w.heap.size + 1 + 1 < wR.heap.size + 1 := by omega
    have lD1 : (w.heap.size + 1 + 1 + 1) < wR.heap.size + 1 := by omega
    have cRA_0 : wR.cell? ⟨w.heap.size, 0, none⟩ = some (.int .i64 ax) := RA.cell 0 rfl; have fRA_0 := RA.free 0; have cRA_1 : wR.cell? ⟨w.heap.size, 1, none⟩ = some (.int .i64 ay) := RA.cell 1 rfl; have fRA_1 := RA.free 1; have cRP_0 : wR.cell? ⟨w.heap.size + 1 + 1, 0, none⟩ = some (.int .i64 0) := RP.cell 0 rfl; have fRP_0 := RP.free 0; have cRP_1 : wR.cell? ⟨w.heap.size + 1 + 1, 1, none⟩ = some (.int .i64 0) := RP.cell 1 rfl; have fRP_1 := RP.free 1; have cRD_0 : wR.cell? ⟨w.heap.size + 1 + 1 + 1, 0, none⟩ = some (.int .i64 dx) := RD.cell 0 rfl; have fRD_0 := RD.free 0; have cRD_1 : wR.cell? ⟨w.heap.size + 1 + 1 + 1, 1, none⟩ = some (.int .i64 dz) := RD.cell 1 rfl; have fRD_1 := RD.free 1
    clear hW hHeld
    go_wp2
    all_goals (try simp only [Exit.inBlock, Exit.then])
    all_goals refine bodyPost_ret (results_ptij rfl _ _ (w.heap.size + 1 + 1) 0 0 de (show Row _ (w.heap.size + 1 + 1) #[.int .i64 0, .int .i64 0] from (by exact ro)) rfl rfl) rfl ?_
    all_goals exact ⟨by rw [HE.out], (show Chg [] w _ from by (repeat' (first | (with_reducible first | exact Chg.refl _ _ | assumption | refine Chg.alloc ?_ _ | refine Chg.drew ?_ | refine Chg.drewN ?_ _ | refine Chg.setCell ?_ ?_ _ | refine Chg.upc ?_ (by assumption) | refine Chg.call ?_ (by assumption) ?_) | (refine Or.inl ?_; (simp; done)) | (simp; done) | (simp; omega) | omega))).up⟩

set_option maxRecDepth 8000 in
set_option maxHeartbeats 4000000 in
theorem led_good (s : Nat) (C : M6) (F : Int) (FM : M6) (dk : Bool) (n : Int) (vl : Value) (ax ay bx bz : Int) (w : World) (h : Row w s (rsC C F FM dk n vl)) (dx dz : Int) (xx xe yy ye K : Int) (hD : delta C.a C.b C.c C.d bx bz = ((dx, dz), 0)) (hX : add ax dx = (xx, xe)) (hY : add ay dz = (yy, ye)) (hK : keep xe ye = K) (h0 : K = 0) :
    Calls Tryz.prog 31 #[.pointer (some ⟨s, 0, none⟩), .agg #[.int .i64 ax, .int .i64 ay], .agg #[.int .i64 bx, .int .i64 bz]] w fun E w' => E = ptE (movedR C ax ay bx bz) ∧ Up w w' := by
  have HR := Lib.hid h
  have HLS := Lib.hid h.lt
  have ls := h.lt
  clear h
  have HE := Lib.hid (show movedR C ax ay bx bz = ((xx, yy), 0) by
    unfold movedR
    rw [hD, if_pos rfl]
    simp only [hX, hY]
    have h1 : xe = 0 := by by_cases h : xe = 0; exact h; simp [keep, h] at hK; omega
    have h2 : ye = 0 := by simp [keep, h1] at hK; omega
    rw [if_pos h1, if_pos h2])
  subst h0
  have HD := Lib.hid hD
  have HX := Lib.hid hX
  have HY := Lib.hid hY
  have HK := Lib.hid hK
  have HK1 := Lib.hid (show keep 0 xe = xe by simp [keep])
  clear hD hX hY hK
  go_enter Tryz.func31, Tryz.ntmps31
  go_wp2
  refine wp_region_held_drew (S := fun w' => w'.cell? ⟨s, 0, none⟩ = some (.int .i64 C.a) ∧ w'.cell? ⟨s, 1, none⟩ = some (.int .i64 C.b) ∧ w'.cell? ⟨s, 2, none⟩ = some (.int .i64 C.c) ∧ w'.cell? ⟨s, 3, none⟩ = some (.int .i64 C.d) ∧ w'.cell? ⟨s, 4, none⟩ = some (.int .i64 C.x) ∧ w'.cell? ⟨s, 5, none⟩ = some (.int .i64 C.y) ∧ w'.cell? ⟨w.heap.size + 1, 0, none⟩ = some (.int .i64 bx) ∧ w'.cell? ⟨w.heap.size + 1, 1, none⟩ = some (.int .i64 bz)) (by kernel_rfl) ?_ (fun hHeld => ?_)
  · exact s8_of (show Row _ s (rsC C F FM dk n vl) from (by have hrr := HR.out; exact ra)) (show Row _ (w.heap.size + 1) #[.int .i64 bx, .int .i64 bz] from (by exact ra))
  refine wpAnyH_take (i := 0) (v := ?_) rfl (by kernel_rfl) (by kernel_rfl) (by kernel_rfl) (fun _ _ _ h => h) (Or.inl ⟨by rfl, ?_⟩) (by assumption) ?_
  rotate_left
  · intro w2 hSw
    (try dsimp only at hSw)
    obtain ⟨s0, s1, s2, s3, s4, s5, s6, s7⟩ := hSw
    go_simp
    (try (with_reducible rfl))
  (try simp only [Act.put, lga, lgz, lgs, lsa, lsz, lss])
  refine wpAnyH_take (i := 1) (v := ?_) rfl (by kernel_rfl) (by kernel_rfl) (by kernel_rfl) (fun _ _ _ h => h) (Or.inl ⟨by rfl, ?_⟩) (by assumption) ?_
  rotate_left
  · intro w2 hSw
    (try dsimp only at hSw)
    obtain ⟨s0, s1, s2, s3, s4, s5, s6, s7⟩ := hSw
    go_simp
    (try (with_reducible rfl))
  (try simp only [Act.put, lga, lgz, lgs, lsa, lsz, lss])
  refine wpAnyH_take (i := 2) (v := ?_) rfl (by kernel_rfl) (by kernel_rfl) (by kernel_rfl) (fun _ _ _ h => h) (Or.inl ⟨by rfl, ?_⟩) (by assumption) ?_
  rotate_left
  · intro w2 hSw
    (try dsimp only at hSw)
    obtain ⟨s0, s1, s2, s3, s4, s5, s6, s7⟩ := hSw
    go_simp
    (try (with_reducible rfl))
  (try simp only [Act.put, lga, lgz, lgs, lsa, lsz, lss])
  refine wpAnyH_take (i := 3) (v := ?_) rfl (by kernel_rfl) (by kernel_rfl) (by kernel_rfl) (fun _ _ _ h => h) (Or.inl ⟨by rfl, ?_⟩) (by assumption) ?_
  rotate_left
  · intro w2 hSw
    (try dsimp only at hSw)
    obtain ⟨s0, s1, s2, s3, s4, s5, s6, s7⟩ := hSw
    go_simp
    (try (with_reducible rfl))
  (try simp only [Act.put, lga, lgz, lgs, lsa, lsz, lss])
  refine wpAnyH_take (i := 4) (v := ?_) rfl (by kernel_rfl) (by kernel_rfl) (by kernel_rfl) (fun _ _ _ h => h) (Or.inl ⟨by rfl, ?_⟩) (by assumption) ?_
  rotate_left
  · intro w2 hSw
    (try dsimp only at hSw)
    obtain ⟨s0, s1, s2, s3, s4, s5, s6, s7⟩ := hSw
    go_simp
    (try (with_reducible rfl))
  (try simp only [Act.put, lga, lgz, lgs, lsa, lsz, lss])
  refine wpAnyH_ready (rs := [5, 9]) (by decide +kernel) (by simp) ?_
  refine AllReadyH.cons rfl (fun K hK => ?_) (AllReadyH.cons rfl (fun K hK => ?_) (AllReadyH.nil))
  · skip
    (try simp only [lga, lgz, lgs])
    (go_simp; go_at_call 66; (with_reducible refine (Rmat.delta_calls C.a C.b C.c C.d C.x C.y bx bz _).mono ?_); rw [HD.out]; rintro E w1 ⟨rfl, hu1⟩; have z1 := hu1.size; (try simp at z1); have RS1 : Row w1 s (rsC C F FM dk n vl) := HR.out.up (show Up w w1 by exact ua); have RA1 : Row w1 w.heap.size #[.int .i64 ax, .int .i64 ay] := Row.up (show Row _ w.heap.size #[.int .i64 ax, .int .i64 ay] by exact ra) hu1; have RB1 : Row w1 (w.heap.size + 1) #[.int .i64 bx, .int .i64 bz] := Row.up (show Row _ (w.heap.size + 1) #[.int .i64 bx, .int .i64 bz] by exact ra) hu1; have RP1 : Row w1 (w.heap.size + 1 + 1) #[.int .i64 0, .int .i64 0] := Row.up (show Row _ (w.heap.size + 1 + 1) #[.int .i64 0, .int .i64 0] by exact ra) hu1;  have u1 : Up w w1 := (by exact ua); (try dsimp only))
    refine hK.out _ _ ?_ (fun hHeld => ?_)
    · exact s8_of (RS1) (RB1)
    clear hK K
    (try simp only [Act.put, lga, lgz, lgs, lsa, lsz, lss])
    refine wpAnyH_take (i := 6) (v := ?_) rfl (by kernel_rfl) (by kernel_rfl) (by kernel_rfl) (fun _ _ _ h => h) (Or.inl ⟨by rfl, ?_⟩) (by assumption) ?_
    rotate_left
    · intro w2 hSw
      (try dsimp only at hSw)
      obtain ⟨s0, s1, s2, s3, s4, s5, s6, s7⟩ := hSw
      go_simp
      (try (with_reducible rfl))
    (try simp only [Act.put, lga, lgz, lgs, lsa, lsz, lss])
    refine wpAnyH_take (i := 7) (v := ?_) rfl (by kernel_rfl) (by kernel_rfl) (by kernel_rfl) (fun _ _ _ h => h) (Or.inl ⟨by rfl, ?_⟩) (by assumption) ?_
    rotate_left
    · intro w2 hSw
      (try dsimp only at hSw)
      obtain ⟨s0, s1, s2, s3, s4, s5, s6, s7⟩ := hSw
      go_simp
      (try (with_reducible rfl))
    (try simp only [Act.put, lga, lgz, lgs, lsa, lsz, lss])
    refine wpAnyH_take (i := 8) (v := ?_) rfl (by kernel_rfl) (by kernel_rfl) (by kernel_rfl) (fun _ _ _ h => h) (Or.inl ⟨by rfl, ?_⟩) (by assumption) ?_
    rotate_left
    · intro w2 hSw
      (try dsimp only at hSw)
      obtain ⟨s0, s1, s2, s3, s4, s5, s6, s7⟩ := hSw
      go_simp
      (try (with_reducible rfl))
    (try simp only [Act.put, lga, lgz, lgs, lsa, lsz, lss])
    refine wpAnyH_ready (rs := [9]) (by decide +kernel) (by simp) ?_
    refine AllReadyH.cons rfl (fun K hK => ?_) (AllReadyH.nil)
    (try simp only [lga, lgz, lgs])
    (go_simp)
    refine hK.out _ _ ?_ (fun hHeld => ?_)
    · exact s8_of (RS1.alloc _) (RB1.alloc _)
    clear hK K
    (try simp only [Act.put, lga, lgz, lgs, lsa, lsz, lss])
    refine wpAnyH_ready (rs := [10]) (by decide +kernel) (by simp) ?_
    refine AllReadyH.cons rfl (fun K hK => ?_) (AllReadyH.nil)
    (try simp only [lga, lgz, lgs])
    (go_simp)
    refine hK.out _ _ ?_ (fun hHeld => ?_)
    · exact s8_of (show Row _ s (rsC C F FM dk n vl) from (by exact ra)) (show Row _ (w.heap.size + 1) #[.int .i64 bx, .int .i64 bz] from (by exact ra))
    clear hK K
    (try simp only [Act.put, lga, lgz, lgs, lsa, lsz, lss])
    refine wpAnyH_take (i := 11) (v := ?_) rfl (by kernel_rfl) (by kernel_rfl) (by kernel_rfl) (fun _ _ _ h => h) (Or.inl ⟨by rfl, ?_⟩) (by assumption) ?_
    rotate_left
    · intro w2 hSw
      (try dsimp only at hSw)
      obtain ⟨s0, s1, s2, s3, s4, s5, s6, s7⟩ := hSw
      go_simp
      (try (with_reducible rfl))
    (try simp only [Act.put, lga, lgz, lgs, lsa, lsz, lss])
    refine wpAnyH_done (by kernel_rfl) ?_ _
    (try dsimp only)
    generalize hW : World.alloc w1 _ = wR
    have RA : Row wR w.heap.size #[.int .i64 ax, .int .i64 ay] := by rw [← hW]; exact (by exact ro)
    have RP : Row wR (w.heap.size + 1 + 1) #[.int .i64 0, .int .i64 0] := by rw [← hW]; exact (by exact ro)
    have RD : Row wR w1.heap.size #[.int .i64 dx, .int .i64 dz] := by rw [← hW]; first | exact Row.made _ _ _ | exact (by exact ro)
    have uR : Up w wR := by rw [← hW]; exact (show Chg [] w _ from by (repeat' (first | (with_reducible first | exact Chg.refl _ _ | assumption | refine Chg.alloc ?_ _ | refine Chg.drew ?_ | refine Chg.drewN ?_ _ | refine Chg.setCell ?_ ?_ _ | refine Chg.upc ?_ (by assumption) | refine Chg.call ?_ (by assumption) ?_) | (refine Or.inl ?_; (simp; done)) | (simp; done) | (simp; omega) | omega))).up
    have zR := uR.size
    have lA := RA.lt
    have lP := RP.lt
    have lD := RD.lt
    have lA1 : w.heap.size < wR.heap.size + 1 := by omega
    have lP1 : w.heap.size + 1 + 1 < wR.heap.size + 1 := by omega
    have lD1 : w1.heap.size < wR.heap.size + 1 := by omega
    have cRA_0 : wR.cell? ⟨w.heap.size, 0, none⟩ = some (.int .i64 ax) := RA.cell 0 rfl; have fRA_0 := RA.free 0; have cRA_1 : wR.cell? ⟨w.heap.size, 1, none⟩ = some (.int .i64 ay) := RA.cell 1 rfl; have fRA_1 := RA.free 1; have cRP_0 : wR.cell? ⟨w.heap.size + 1 + 1, 0, none⟩ = some (.int .i64 0) := RP.cell 0 rfl; have fRP_0 := RP.free 0; have cRP_1 : wR.cell? ⟨w.heap.size + 1 + 1, 1, none⟩ = some (.int .i64 0) := RP.cell 1 rfl; have fRP_1 := RP.free 1; have cRD_0 : wR.cell? ⟨w1.heap.size, 0, none⟩ = some (.int .i64 dx) := RD.cell 0 rfl; have fRD_0 := RD.free 0; have cRD_1 : wR.cell? ⟨w1.heap.size, 1, none⟩ = some (.int .i64 dz) := RD.cell 1 rfl; have fRD_1 := RD.free 1
    clear hW hHeld
    go_wp2_with (first
      | (go_at_call 67; ((with_reducible refine (Rmat.add_calls wR.heap.size 0 ax dx _ (by (repeat' (first | (with_reducible assumption) | (with_reducible refine One.at _ _ ?_; (simp; done)) | (with_reducible refine One.alloc ?_ _) | (with_reducible refine One.drew ?_) | (with_reducible refine One.drewN ?_ _) | (with_reducible refine One.other ?_ (by first | (simp; done) | (simp; omega) | omega) _) | (with_reducible refine One.up ?_ (by with_reducible assumption)) | (with_reducible refine One.chg ?_ (by with_reducible assumption) (by first | (simp; done) | (simp; omega))))))).mono ?_); rw [HX.out, HK1.out]; rintro E w2 ⟨rfl, ho2, hc2⟩; have z2 := hc2.size; (try simp at z2); have RA_w2 : Row w2 w.heap.size #[.int .i64 ax, .int .i64 ay] := Row.chg (show Row _ w.heap.size #[.int .i64 ax, .int .i64 ay] by exact ra) hc2 (by simp; omega); have RP_w2 : Row w2 (w.heap.size + 1 + 1) #[.int .i64 0, .int .i64 0] := Row.chg (show Row _ (w.heap.size + 1 + 1) #[.int .i64 0, .int .i64 0] by exact ra) hc2 (by simp; omega); have RD_w2 : Row w2 w1.heap.size #[.int .i64 dx, .int .i64 dz] := Row.chg (show Row _ w1.heap.size #[.int .i64 dx, .int .i64 dz] by exact ra) hc2 (by simp; omega); have cRA_w2_0 : w2.cell? ⟨w.heap.size, 0, none⟩ = some (.int .i64 ax) := RA_w2.cell 0 rfl; have fRA_w2_0 := RA_w2.free 0; have cRA_w2_1 : w2.cell? ⟨w.heap.size, 1, none⟩ = some (.int .i64 ay) := RA_w2.cell 1 rfl; have fRA_w2_1 := RA_w2.free 1; have cRP_w2_0 : w2.cell? ⟨w.heap.size + 1 + 1, 0, none⟩ = some (.int .i64 0) := RP_w2.cell 0 rfl; have fRP_w2_0 := RP_w2.free 0; have cRP_w2_1 : w2.cell? ⟨w.heap.size + 1 + 1, 1, none⟩ = some (.int .i64 0) := RP_w2.cell 1 rfl; have fRP_w2_1 := RP_w2.free 1; have cRD_w2_0 : w2.cell? ⟨w1.heap.size, 0, none⟩ = some (.int .i64 dx) := RD_w2.cell 0 rfl; have fRD_w2_0 := RD_w2.free 0; have cRD_w2_1 : w2.cell? ⟨w1.heap.size, 1, none⟩ = some (.int .i64 dz) := RD_w2.cell 1 rfl; have fRD_w2_1 := RD_w2.free 1; have oc2 := ho2.cell; have of2 := ho2.free; have lS2 := ho2.lt; have lA2 := RA_w2.lt; have lP2 := RP_w2.lt; have lD2 := RD_w2.lt; have mA2 : w.heap.size < w2.heap.size + 1 := (by omega); have mP2 : w.heap.size + 1 + 1 < w2.heap.size + 1 := (by omega); have mD2 : w1.heap.size < w2.heap.size + 1 := (by omega); have mS2 : wR.heap.size < w2.heap.size + 1 := (by omega)))
      | (go_at_call 67; ((with_reducible refine (Rmat.add_calls wR.heap.size xe ay dz _ (ho2.chg (S := []) (by (repeat' (first | (with_reducible first | exact Chg.refl _ _ | assumption | refine Chg.alloc ?_ _ | refine Chg.drew ?_ | refine Chg.drewN ?_ _ | refine Chg.setCell ?_ ?_ _ | refine Chg.upc ?_ (by assumption) | refine Chg.call ?_ (by assumption) ?_) | (refine Or.inl ?_; (simp; done)) | (simp; done) | (simp; omega) | omega))) (by simp))).mono ?_); rw [HY.out, HK.out]; rintro E w3 ⟨rfl, ho3, hc3⟩; have z3 := hc3.size; (try simp at z3); have R11 : Row w3 w2.heap.size #[.int .i64 xx, .int .i64 0] := Row.chg (show Row _ w2.heap.size #[.int .i64 xx, .int .i64 0] by first | exact ra | exact (by exact ro)) hc3 (by simp; omega); have l11 := R11.lt; have cR11_0 : w3.cell? ⟨w2.heap.size, 0, none⟩ = some (.int .i64 xx) := R11.cell 0 rfl; have fR11_0 := R11.free 0; have cR11_1 : w3.cell? ⟨w2.heap.size, 1, none⟩ = some (.int .i64 0) := R11.cell 1 rfl; have fR11_1 := R11.free 1; have RA_w3 : Row w3 w.heap.size #[.int .i64 ax, .int .i64 ay] := Row.chg (show Row _ w.heap.size #[.int .i64 ax, .int .i64 ay] by exact ra) hc3 (by simp; omega); have RP_w3 : Row w3 (w.heap.size + 1 + 1) #[.int .i64 0, .int .i64 0] := Row.chg (show Row _ (w.heap.size + 1 + 1) #[.int .i64 0, .int .i64 0] by exact ra) hc3 (by simp; omega); have RD_w3 : Row w3 w1.heap.size #[.int .i64 dx, .int .i64 dz] := Row.chg (show Row _ w1.heap.size #[.int .i64 dx, .int .i64 dz] by exact ra) hc3 (by simp; omega); have cRA_w3_0 : w3.cell? ⟨w.heap.size, 0, none⟩ = some (.int .i64 ax) := RA_w3.cell 0 rfl; have fRA_w3_0 := RA_w3.free 0; have cRA_w3_1 : w3.cell? ⟨w.heap.size, 1, none⟩ = some (.int .i64 ay) := RA_w3.cell 1 rfl; have fRA_w3_1 := RA_w3.free 1; have cRP_w3_0 : w3.cell? ⟨w.heap.size + 1 + 1, 0, none⟩ = some (.int .i64 0) := RP_w3.cell 0 rfl; have fRP_w3_0 := RP_w3.free 0; have cRP_w3_1 : w3.cell? ⟨w.heap.size + 1 + 1, 1, none⟩ = some (.int .i64 0) := RP_w3.cell 1 rfl; have fRP_w3_1 := RP_w3.free 1; have cRD_w3_0 : w3.cell? ⟨w1.heap.size, 0, none⟩ = some (.int .i64 dx) := RD_w3.cell 0 rfl; have fRD_w3_0 := RD_w3.free 0; have cRD_w3_1 : w3.cell? ⟨w1.heap.size, 1, none⟩ = some (.int .i64 dz) := RD_w3.cell 1 rfl; have fRD_w3_1 := RD_w3.free 1; have oc3 := ho3.cell; have of3 := ho3.free; have lS3 := ho3.lt; have lA3 := RA_w3.lt; have lP3 := RP_w3.lt; have lD3 := RD_w3.lt; have mA3 : w.heap.size < w3.heap.size + 1 := (by omega); have mP3 : w.heap.size + 1 + 1 < w3.heap.size + 1 := (by omega); have mD3 : w1.heap.size < w3.heap.size + 1 := (by omega); have mS3 : wR.heap.size < w3.heap.size + 1 := (by omega))))
    all_goals (try simp only [Exit.inBlock, Exit.then])
    all_goals refine bodyPost_ret (results_ptij rfl _ _ (w.heap.size + 1 + 1) xx yy 0 (show Row _ (w.heap.size + 1 + 1) #[.int .i64 xx, .int .i64 yy] from (by exact ro)) rfl rfl) rfl ?_
    all_goals exact ⟨by rw [HE.out], (show Chg [] w _ from by (repeat' (first | (with_reducible first | exact Chg.refl _ _ | assumption | refine Chg.alloc ?_ _ | refine Chg.drew ?_ | refine Chg.drewN ?_ _ | refine Chg.setCell ?_ ?_ _ | refine Chg.upc ?_ (by assumption) | refine Chg.call ?_ (by assumption) ?_) | (refine Or.inl ?_; (simp; done)) | (simp; done) | (simp; omega) | omega))).up⟩
  · skip
    (try simp only [lga, lgz, lgs])
    (go_simp)
    refine hK.out _ _ ?_ (fun hHeld => ?_)
    · exact s8_of (show Row _ s (rsC C F FM dk n vl) from (by have hrr := HR.out; exact ra)) (show Row _ (w.heap.size + 1) #[.int .i64 bx, .int .i64 bz] from (by exact ra))
    clear hK K
    (try simp only [Act.put, lga, lgz, lgs, lsa, lsz, lss])
    refine wpAnyH_ready (rs := [5]) (by decide +kernel) (by simp) ?_
    refine AllReadyH.cons rfl (fun K hK => ?_) (AllReadyH.nil)
    (try simp only [lga, lgz, lgs])
    (go_simp; go_at_call 66; (with_reducible refine (Rmat.delta_calls C.a C.b C.c C.d C.x C.y bx bz _).mono ?_); rw [HD.out]; rintro E w1 ⟨rfl, hu1⟩; have z1 := hu1.size; (try simp at z1); have RS1 : Row w1 s (rsC C F FM dk n vl) := HR.out.up (show Up w w1 by exact ua); have RA1 : Row w1 w.heap.size #[.int .i64 ax, .int .i64 ay] := Row.up (show Row _ w.heap.size #[.int .i64 ax, .int .i64 ay] by exact ra) hu1; have RB1 : Row w1 (w.heap.size + 1) #[.int .i64 bx, .int .i64 bz] := Row.up (show Row _ (w.heap.size + 1) #[.int .i64 bx, .int .i64 bz] by exact ra) hu1; have RP1 : Row w1 (w.heap.size + 1 + 1) #[.int .i64 0, .int .i64 0] := Row.up (show Row _ (w.heap.size + 1 + 1) #[.int .i64 0, .int .i64 0] by exact ra) hu1; have RD1 : Row w1 (w.heap.size + 1 + 1 + 1) #[.int .i64 0, .int .i64 0] := Row.up (show Row _ (w.heap.size + 1 + 1 + 1) #[.int .i64 0, .int .i64 0] by exact ra) hu1; have lrd := RD1.lt; have cRD1_0 : w1.cell? ⟨w.heap.size + 1 + 1 + 1, 0, none⟩ = some (.int .i64 0) := RD1.cell 0 rfl; have fRD1_0 := RD1.free 0; have cRD1_1 : w1.cell? ⟨w.heap.size + 1 + 1 + 1, 1, none⟩ = some (.int .i64 0) := RD1.cell 1 rfl; have fRD1_1 := RD1.free 1;  have u1 : Up w w1 := (by exact ua); (try dsimp only))
    refine hK.out _ _ ?_ (fun hHeld => ?_)
    · exact s8_of (RS1) (RB1)
    clear hK K
    (try simp only [Act.put, lga, lgz, lgs, lsa, lsz, lss])
    refine wpAnyH_take (i := 6) (v := ?_) rfl (by kernel_rfl) (by kernel_rfl) (by kernel_rfl) (fun _ _ _ h => h) (Or.inl ⟨by rfl, ?_⟩) (by assumption) ?_
    rotate_left
    · intro w2 hSw
      (try dsimp only at hSw)
      obtain ⟨s0, s1, s2, s3, s4, s5, s6, s7⟩ := hSw
      go_simp
      (try (with_reducible rfl))
    (try simp only [Act.put, lga, lgz, lgs, lsa, lsz, lss])
    refine wpAnyH_take (i := 7) (v := ?_) rfl (by kernel_rfl) (by kernel_rfl) (by kernel_rfl) (fun _ _ _ h => h) (Or.inl ⟨by rfl, ?_⟩) (by assumption) ?_
    rotate_left
    · intro w2 hSw
      (try dsimp only at hSw)
      obtain ⟨s0, s1, s2, s3, s4, s5, s6, s7⟩ := hSw
      go_simp
      (try (with_reducible rfl))
    (try simp only [Act.put, lga, lgz, lgs, lsa, lsz, lss])
    refine wpAnyH_take (i := 8) (v := ?_) rfl (by kernel_rfl) (by kernel_rfl) (by kernel_rfl) (fun _ _ _ h => h) (Or.inl ⟨by rfl, ?_⟩) (by assumption) ?_
    rotate_left
    · intro w2 hSw
      (try dsimp only at hSw)
      obtain ⟨s0, s1, s2, s3, s4, s5, s6, s7⟩ := hSw
      go_simp
      (try (with_reducible rfl))
    (try simp only [Act.put, lga, lgz, lgs, lsa, lsz, lss])
    refine wpAnyH_ready (rs := [10]) (by decide +kernel) (by simp) ?_
    refine AllReadyH.cons rfl (fun K hK => ?_) (AllReadyH.nil)
    (try simp only [lga, lgz, lgs])
    (go_simp)
    refine hK.out _ _ ?_ (fun hHeld => ?_)
    · exact s8_of (show Row _ s (rsC C F FM dk n vl) from (by exact ra)) (show Row _ (w.heap.size + 1) #[.int .i64 bx, .int .i64 bz] from (by exact ra))
    clear hK K
    (try simp only [Act.put, lga, lgz, lgs, lsa, lsz, lss])
    refine wpAnyH_take (i := 11) (v := ?_) rfl (by kernel_rfl) (by kernel_rfl) (by kernel_rfl) (fun _ _ _ h => h) (Or.inl ⟨by rfl, ?_⟩) (by assumption) ?_
    rotate_left
    · intro w2 hSw
      (try dsimp only at hSw)
      obtain ⟨s0, s1, s2, s3, s4, s5, s6, s7⟩ := hSw
      go_simp
      (try (with_reducible rfl))
    (try simp only [Act.put, lga, lgz, lgs, lsa, lsz, lss])
    refine wpAnyH_done (by kernel_rfl) ?_ _
    (try dsimp only)
    generalize hW : World.setCell (World.setCell _ _ _) _ _ = wR
    have RA : Row wR w.heap.size #[.int .i64 ax, .int .i64 ay] := by rw [← hW]; exact (by exact ro)
    have RP : Row wR (w.heap.size + 1 + 1) #[.int .i64 0, .int .i64 0] := by rw [← hW]; exact (by exact ro)
    have RD : Row wR (w.heap.size + 1 + 1 + 1) #[.int .i64 dx, .int .i64 dz] := by rw [← hW]; first | exact Row.made _ _ _ | exact (by exact ro)
    have uR : Up w wR := by rw [← hW]; exact (show Chg [] w _ from by (repeat' (first | (with_reducible first | exact Chg.refl _ _ | assumption | refine Chg.alloc ?_ _ | refine Chg.drew ?_ | refine Chg.drewN ?_ _ | refine Chg.setCell ?_ ?_ _ | refine Chg.upc ?_ (by assumption) | refine Chg.call ?_ (by assumption) ?_) | (refine Or.inl ?_; (simp; done)) | (simp; done) | (simp; omega) | omega))).up
    have zR := uR.size
    have lA := RA.lt
    have lP := RP.lt
    have lD := RD.lt
    have lA1 : w.heap.size < wR.heap.size + 1 := by omega
    have lP1 : w.heap.size + 1 + 1 < wR.heap.size + 1 := by omega
    have lD1 : (w.heap.size + 1 + 1 + 1) < wR.heap.size + 1 := by omega
    have cRA_0 : wR.cell? ⟨w.heap.size, 0, none⟩ = some (.int .i64 ax) := RA.cell 0 rfl; have fRA_0 := RA.free 0; have cRA_1 : wR.cell? ⟨w.heap.size, 1, none⟩ = some (.int .i64 ay) := RA.cell 1 rfl; have fRA_1 := RA.free 1; have cRP_0 : wR.cell? ⟨w.heap.size + 1 + 1, 0, none⟩ = some (.int .i64 0) := RP.cell 0 rfl; have fRP_0 := RP.free 0; have cRP_1 : wR.cell? ⟨w.heap.size + 1 + 1, 1, none⟩ = some (.int .i64 0) := RP.cell 1 rfl; have fRP_1 := RP.free 1; have cRD_0 : wR.cell? ⟨w.heap.size + 1 + 1 + 1, 0, none⟩ = some (.int .i64 dx) := RD.cell 0 rfl; have fRD_0 := RD.free 0; have cRD_1 : wR.cell? ⟨w.heap.size + 1 + 1 + 1, 1, none⟩ = some (.int .i64 dz) := RD.cell 1 rfl; have fRD_1 := RD.free 1
    clear hW hHeld
    go_wp2_with (first
      | (go_at_call 67; ((with_reducible refine (Rmat.add_calls wR.heap.size 0 ax dx _ (by (repeat' (first | (with_reducible assumption) | (with_reducible refine One.at _ _ ?_; (simp; done)) | (with_reducible refine One.alloc ?_ _) | (with_reducible refine One.drew ?_) | (with_reducible refine One.drewN ?_ _) | (with_reducible refine One.other ?_ (by first | (simp; done) | (simp; omega) | omega) _) | (with_reducible refine One.up ?_ (by with_reducible assumption)) | (with_reducible refine One.chg ?_ (by with_reducible assumption) (by first | (simp; done) | (simp; omega))))))).mono ?_); rw [HX.out, HK1.out]; rintro E w2 ⟨rfl, ho2, hc2⟩; have z2 := hc2.size; (try simp at z2); have RA_w2 : Row w2 w.heap.size #[.int .i64 ax, .int .i64 ay] := Row.chg (show Row _ w.heap.size #[.int .i64 ax, .int .i64 ay] by exact ra) hc2 (by simp; omega); have RP_w2 : Row w2 (w.heap.size + 1 + 1) #[.int .i64 0, .int .i64 0] := Row.chg (show Row _ (w.heap.size + 1 + 1) #[.int .i64 0, .int .i64 0] by exact ra) hc2 (by simp; omega); have RD_w2 : Row w2 (w.heap.size + 1 + 1 + 1) #[.int .i64 dx, .int .i64 dz] := Row.chg (show Row _ (w.heap.size + 1 + 1 + 1) #[.int .i64 dx, .int .i64 dz] by exact ra) hc2 (by simp; omega); have cRA_w2_0 : w2.cell? ⟨w.heap.size, 0, none⟩ = some (.int .i64 ax) := RA_w2.cell 0 rfl; have fRA_w2_0 := RA_w2.free 0; have cRA_w2_1 : w2.cell? ⟨w.heap.size, 1, none⟩ = some (.int .i64 ay) := RA_w2.cell 1 rfl; have fRA_w2_1 := RA_w2.free 1; have cRP_w2_0 : w2.cell? ⟨w.heap.size + 1 + 1, 0, none⟩ = some (.int .i64 0) := RP_w2.cell 0 rfl; have fRP_w2_0 := RP_w2.free 0; have cRP_w2_1 : w2.cell? ⟨w.heap.size + 1 + 1, 1, none⟩ = some (.int .i64 0) := RP_w2.cell 1 rfl; have fRP_w2_1 := RP_w2.free 1; have cRD_w2_0 : w2.cell? ⟨w.heap.size + 1 + 1 + 1, 0, none⟩ = some (.int .i64 dx) := RD_w2.cell 0 rfl; have fRD_w2_0 := RD_w2.free 0; have cRD_w2_1 : w2.cell? ⟨w.heap.size + 1 + 1 + 1, 1, none⟩ = some (.int .i64 dz) := RD_w2.cell 1 rfl; have fRD_w2_1 := RD_w2.free 1; have oc2 := ho2.cell; have of2 := ho2.free; have lS2 := ho2.lt; have lA2 := RA_w2.lt; have lP2 := RP_w2.lt; have lD2 := RD_w2.lt; have mA2 : w.heap.size < w2.heap.size + 1 := (by omega); have mP2 : w.heap.size + 1 + 1 < w2.heap.size + 1 := (by omega); have mD2 : (w.heap.size + 1 + 1 + 1) < w2.heap.size + 1 := (by omega); have mS2 : wR.heap.size < w2.heap.size + 1 := (by omega)))
      | (go_at_call 67; ((with_reducible refine (Rmat.add_calls wR.heap.size xe ay dz _ (ho2.chg (S := []) (by (repeat' (first | (with_reducible first | exact Chg.refl _ _ | assumption | refine Chg.alloc ?_ _ | refine Chg.drew ?_ | refine Chg.drewN ?_ _ | refine Chg.setCell ?_ ?_ _ | refine Chg.upc ?_ (by assumption) | refine Chg.call ?_ (by assumption) ?_) | (refine Or.inl ?_; (simp; done)) | (simp; done) | (simp; omega) | omega))) (by simp))).mono ?_); rw [HY.out, HK.out]; rintro E w3 ⟨rfl, ho3, hc3⟩; have z3 := hc3.size; (try simp at z3); have R11 : Row w3 w2.heap.size #[.int .i64 xx, .int .i64 0] := Row.chg (show Row _ w2.heap.size #[.int .i64 xx, .int .i64 0] by first | exact ra | exact (by exact ro)) hc3 (by simp; omega); have l11 := R11.lt; have cR11_0 : w3.cell? ⟨w2.heap.size, 0, none⟩ = some (.int .i64 xx) := R11.cell 0 rfl; have fR11_0 := R11.free 0; have cR11_1 : w3.cell? ⟨w2.heap.size, 1, none⟩ = some (.int .i64 0) := R11.cell 1 rfl; have fR11_1 := R11.free 1; have RA_w3 : Row w3 w.heap.size #[.int .i64 ax, .int .i64 ay] := Row.chg (show Row _ w.heap.size #[.int .i64 ax, .int .i64 ay] by exact ra) hc3 (by simp; omega); have RP_w3 : Row w3 (w.heap.size + 1 + 1) #[.int .i64 0, .int .i64 0] := Row.chg (show Row _ (w.heap.size + 1 + 1) #[.int .i64 0, .int .i64 0] by exact ra) hc3 (by simp; omega); have RD_w3 : Row w3 (w.heap.size + 1 + 1 + 1) #[.int .i64 dx, .int .i64 dz] := Row.chg (show Row _ (w.heap.size + 1 + 1 + 1) #[.int .i64 dx, .int .i64 dz] by exact ra) hc3 (by simp; omega); have cRA_w3_0 : w3.cell? ⟨w.heap.size, 0, none⟩ = some (.int .i64 ax) := RA_w3.cell 0 rfl; have fRA_w3_0 := RA_w3.free 0; have cRA_w3_1 : w3.cell? ⟨w.heap.size, 1, none⟩ = some (.int .i64 ay) := RA_w3.cell 1 rfl; have fRA_w3_1 := RA_w3.free 1; have cRP_w3_0 : w3.cell? ⟨w.heap.size + 1 + 1, 0, none⟩ = some (.int .i64 0) := RP_w3.cell 0 rfl; have fRP_w3_0 := RP_w3.free 0; have cRP_w3_1 : w3.cell? ⟨w.heap.size + 1 + 1, 1, none⟩ = some (.int .i64 0) := RP_w3.cell 1 rfl; have fRP_w3_1 := RP_w3.free 1; have cRD_w3_0 : w3.cell? ⟨w.heap.size + 1 + 1 + 1, 0, none⟩ = some (.int .i64 dx) := RD_w3.cell 0 rfl; have fRD_w3_0 := RD_w3.free 0; have cRD_w3_1 : w3.cell? ⟨w.heap.size + 1 + 1 + 1, 1, none⟩ = some (.int .i64 dz) := RD_w3.cell 1 rfl; have fRD_w3_1 := RD_w3.free 1; have oc3 := ho3.cell; have of3 := ho3.free; have lS3 := ho3.lt; have lA3 := RA_w3.lt; have lP3 := RP_w3.lt; have lD3 := RD_w3.lt; have mA3 : w.heap.size < w3.heap.size + 1 := (by omega); have mP3 : w.heap.size + 1 + 1 < w3.heap.size + 1 := (by omega); have mD3 : (w.heap.size + 1 + 1 + 1) < w3.heap.size + 1 := (by omega); have mS3 : wR.heap.size < w3.heap.size + 1 := (by omega))))
    all_goals (try simp only [Exit.inBlock, Exit.then])
    all_goals refine bodyPost_ret (results_ptij rfl _ _ (w.heap.size + 1 + 1) xx yy 0 (show Row _ (w.heap.size + 1 + 1) #[.int .i64 xx, .int .i64 yy] from (by exact ro)) rfl rfl) rfl ?_
    all_goals exact ⟨by rw [HE.out], (show Chg [] w _ from by (repeat' (first | (with_reducible first | exact Chg.refl _ _ | assumption | refine Chg.alloc ?_ _ | refine Chg.drew ?_ | refine Chg.drewN ?_ _ | refine Chg.setCell ?_ ?_ _ | refine Chg.upc ?_ (by assumption) | refine Chg.call ?_ (by assumption) ?_) | (refine Or.inl ?_; (simp; done)) | (simp; done) | (simp; omega) | omega))).up⟩

set_option maxRecDepth 8000 in
set_option maxHeartbeats 4000000 in
theorem led_over (s : Nat) (C : M6) (F : Int) (FM : M6) (dk : Bool) (n : Int) (vl : Value) (ax ay bx bz : Int) (w : World) (h : Row w s (rsC C F FM dk n vl)) (dx dz : Int) (xx xe yy ye K : Int) (hD : delta C.a C.b C.c C.d bx bz = ((dx, dz), 0)) (hX : add ax dx = (xx, xe)) (hY : add ay dz = (yy, ye)) (hK : keep xe ye = K) (h0 : K ≠ 0) :
    Calls Tryz.prog 31 #[.pointer (some ⟨s, 0, none⟩), .agg #[.int .i64 ax, .int .i64 ay], .agg #[.int .i64 bx, .int .i64 bz]] w fun E w' => E = ptE (movedR C ax ay bx bz) ∧ Up w w' := by
  have HR := Lib.hid h
  have HLS := Lib.hid h.lt
  have ls := h.lt
  clear h
  have HE := Lib.hid (show movedR C ax ay bx bz = ((0, 0), K) by
    unfold movedR
    rw [hD, if_pos rfl]
    simp only [hX, hY]
    by_cases h1 : xe = 0
    · have h2 : ye = K := by simpa [keep, h1] using hK
      rw [if_pos h1, if_neg (by omega), h2]
    · have h2 : xe = K := by simpa [keep, h1] using hK
      rw [if_neg h1, h2])
  have t1 : (K == 0) = false := by simpa using h0
  clear h0
  have HD := Lib.hid hD
  have HX := Lib.hid hX
  have HY := Lib.hid hY
  have HK := Lib.hid hK
  have HK1 := Lib.hid (show keep 0 xe = xe by simp [keep])
  clear hD hX hY hK
  go_enter Tryz.func31, Tryz.ntmps31
  go_wp2
  refine wp_region_held_drew (S := fun w' => w'.cell? ⟨s, 0, none⟩ = some (.int .i64 C.a) ∧ w'.cell? ⟨s, 1, none⟩ = some (.int .i64 C.b) ∧ w'.cell? ⟨s, 2, none⟩ = some (.int .i64 C.c) ∧ w'.cell? ⟨s, 3, none⟩ = some (.int .i64 C.d) ∧ w'.cell? ⟨s, 4, none⟩ = some (.int .i64 C.x) ∧ w'.cell? ⟨s, 5, none⟩ = some (.int .i64 C.y) ∧ w'.cell? ⟨w.heap.size + 1, 0, none⟩ = some (.int .i64 bx) ∧ w'.cell? ⟨w.heap.size + 1, 1, none⟩ = some (.int .i64 bz)) (by kernel_rfl) ?_ (fun hHeld => ?_)
  · exact s8_of (show Row _ s (rsC C F FM dk n vl) from (by have hrr := HR.out; exact ra)) (show Row _ (w.heap.size + 1) #[.int .i64 bx, .int .i64 bz] from (by exact ra))
  refine wpAnyH_take (i := 0) (v := ?_) rfl (by kernel_rfl) (by kernel_rfl) (by kernel_rfl) (fun _ _ _ h => h) (Or.inl ⟨by rfl, ?_⟩) (by assumption) ?_
  rotate_left
  · intro w2 hSw
    (try dsimp only at hSw)
    obtain ⟨s0, s1, s2, s3, s4, s5, s6, s7⟩ := hSw
    go_simp
    (try (with_reducible rfl))
  (try simp only [Act.put, lga, lgz, lgs, lsa, lsz, lss])
  refine wpAnyH_take (i := 1) (v := ?_) rfl (by kernel_rfl) (by kernel_rfl) (by kernel_rfl) (fun _ _ _ h => h) (Or.inl ⟨by rfl, ?_⟩) (by assumption) ?_
  rotate_left
  · intro w2 hSw
    (try dsimp only at hSw)
    obtain ⟨s0, s1, s2, s3, s4, s5, s6, s7⟩ := hSw
    go_simp
    (try (with_reducible rfl))
  (try simp only [Act.put, lga, lgz, lgs, lsa, lsz, lss])
  refine wpAnyH_take (i := 2) (v := ?_) rfl (by kernel_rfl) (by kernel_rfl) (by kernel_rfl) (fun _ _ _ h => h) (Or.inl ⟨by rfl, ?_⟩) (by assumption) ?_
  rotate_left
  · intro w2 hSw
    (try dsimp only at hSw)
    obtain ⟨s0, s1, s2, s3, s4, s5, s6, s7⟩ := hSw
    go_simp
    (try (with_reducible rfl))
  (try simp only [Act.put, lga, lgz, lgs, lsa, lsz, lss])
  refine wpAnyH_take (i := 3) (v := ?_) rfl (by kernel_rfl) (by kernel_rfl) (by kernel_rfl) (fun _ _ _ h => h) (Or.inl ⟨by rfl, ?_⟩) (by assumption) ?_
  rotate_left
  · intro w2 hSw
    (try dsimp only at hSw)
    obtain ⟨s0, s1, s2, s3, s4, s5, s6, s7⟩ := hSw
    go_simp
    (try (with_reducible rfl))
  (try simp only [Act.put, lga, lgz, lgs, lsa, lsz, lss])
  refine wpAnyH_take (i := 4) (v := ?_) rfl (by kernel_rfl) (by kernel_rfl) (by kernel_rfl) (fun _ _ _ h => h) (Or.inl ⟨by rfl, ?_⟩) (by assumption) ?_
  rotate_left
  · intro w2 hSw
    (try dsimp only at hSw)
    obtain ⟨s0, s1, s2, s3, s4, s5, s6, s7⟩ := hSw
    go_simp
    (try (with_reducible rfl))
  (try simp only [Act.put, lga, lgz, lgs, lsa, lsz, lss])
  refine wpAnyH_ready (rs := [5, 9]) (by decide +kernel) (by simp) ?_
  refine AllReadyH.cons rfl (fun K hK => ?_) (AllReadyH.cons rfl (fun K hK => ?_) (AllReadyH.nil))
  · skip
    (try simp only [lga, lgz, lgs])
    (go_simp; go_at_call 66; (with_reducible refine (Rmat.delta_calls C.a C.b C.c C.d C.x C.y bx bz _).mono ?_); rw [HD.out]; rintro E w1 ⟨rfl, hu1⟩; have z1 := hu1.size; (try simp at z1); have RS1 : Row w1 s (rsC C F FM dk n vl) := HR.out.up (show Up w w1 by exact ua); have RA1 : Row w1 w.heap.size #[.int .i64 ax, .int .i64 ay] := Row.up (show Row _ w.heap.size #[.int .i64 ax, .int .i64 ay] by exact ra) hu1; have RB1 : Row w1 (w.heap.size + 1) #[.int .i64 bx, .int .i64 bz] := Row.up (show Row _ (w.heap.size + 1) #[.int .i64 bx, .int .i64 bz] by exact ra) hu1; have RP1 : Row w1 (w.heap.size + 1 + 1) #[.int .i64 0, .int .i64 0] := Row.up (show Row _ (w.heap.size + 1 + 1) #[.int .i64 0, .int .i64 0] by exact ra) hu1;  have u1 : Up w w1 := (by exact ua); (try dsimp only))
    refine hK.out _ _ ?_ (fun hHeld => ?_)
    · exact s8_of (RS1) (RB1)
    clear hK K
    (try simp only [Act.put, lga, lgz, lgs, lsa, lsz, lss])
    refine wpAnyH_take (i := 6) (v := ?_) rfl (by kernel_rfl) (by kernel_rfl) (by kernel_rfl) (fun _ _ _ h => h) (Or.inl ⟨by rfl, ?_⟩) (by assumption) ?_
    rotate_left
    · intro w2 hSw
      (try dsimp only at hSw)
      obtain ⟨s0, s1, s2, s3, s4, s5, s6, s7⟩ := hSw
      go_simp
      (try (with_reducible rfl))
    (try simp only [Act.put, lga, lgz, lgs, lsa, lsz, lss])
    refine wpAnyH_take (i := 7) (v := ?_) rfl (by kernel_rfl) (by kernel_rfl) (by kernel_rfl) (fun _ _ _ h => h) (Or.inl ⟨by rfl, ?_⟩) (by assumption) ?_
    rotate_left
    · intro w2 hSw
      (try dsimp only at hSw)
      obtain ⟨s0, s1, s2, s3, s4, s5, s6, s7⟩ := hSw
      go_simp
      (try (with_reducible rfl))
    (try simp only [Act.put, lga, lgz, lgs, lsa, lsz, lss])
    refine wpAnyH_take (i := 8) (v := ?_) rfl (by kernel_rfl) (by kernel_rfl) (by kernel_rfl) (fun _ _ _ h => h) (Or.inl ⟨by rfl, ?_⟩) (by assumption) ?_
    rotate_left
    · intro w2 hSw
      (try dsimp only at hSw)
      obtain ⟨s0, s1, s2, s3, s4, s5, s6, s7⟩ := hSw
      go_simp
      (try (with_reducible rfl))
    (try simp only [Act.put, lga, lgz, lgs, lsa, lsz, lss])
    refine wpAnyH_ready (rs := [9]) (by decide +kernel) (by simp) ?_
    refine AllReadyH.cons rfl (fun K hK => ?_) (AllReadyH.nil)
    (try simp only [lga, lgz, lgs])
    (go_simp)
    refine hK.out _ _ ?_ (fun hHeld => ?_)
    · exact s8_of (RS1.alloc _) (RB1.alloc _)
    clear hK K
    (try simp only [Act.put, lga, lgz, lgs, lsa, lsz, lss])
    refine wpAnyH_ready (rs := [10]) (by decide +kernel) (by simp) ?_
    refine AllReadyH.cons rfl (fun K hK => ?_) (AllReadyH.nil)
    (try simp only [lga, lgz, lgs])
    (go_simp)
    refine hK.out _ _ ?_ (fun hHeld => ?_)
    · exact s8_of (show Row _ s (rsC C F FM dk n vl) from (by exact ra)) (show Row _ (w.heap.size + 1) #[.int .i64 bx, .int .i64 bz] from (by exact ra))
    clear hK K
    (try simp only [Act.put, lga, lgz, lgs, lsa, lsz, lss])
    refine wpAnyH_take (i := 11) (v := ?_) rfl (by kernel_rfl) (by kernel_rfl) (by kernel_rfl) (fun _ _ _ h => h) (Or.inl ⟨by rfl, ?_⟩) (by assumption) ?_
    rotate_left
    · intro w2 hSw
      (try dsimp only at hSw)
      obtain ⟨s0, s1, s2, s3, s4, s5, s6, s7⟩ := hSw
      go_simp
      (try (with_reducible rfl))
    (try simp only [Act.put, lga, lgz, lgs, lsa, lsz, lss])
    refine wpAnyH_done (by kernel_rfl) ?_ _
    (try dsimp only)
    generalize hW : World.alloc w1 _ = wR
    have RA : Row wR w.heap.size #[.int .i64 ax, .int .i64 ay] := by rw [← hW]; exact (by exact ro)
    have RP : Row wR (w.heap.size + 1 + 1) #[.int .i64 0, .int .i64 0] := by rw [← hW]; exact (by exact ro)
    have RD : Row wR w1.heap.size #[.int .i64 dx, .int .i64 dz] := by rw [← hW]; first | exact Row.made _ _ _ | exact (by exact ro)
    have uR : Up w wR := by rw [← hW]; exact (show Chg [] w _ from by (repeat' (first | (with_reducible first | exact Chg.refl _ _ | assumption | refine Chg.alloc ?_ _ | refine Chg.drew ?_ | refine Chg.drewN ?_ _ | refine Chg.setCell ?_ ?_ _ | refine Chg.upc ?_ (by assumption) | refine Chg.call ?_ (by assumption) ?_) | (refine Or.inl ?_; (simp; done)) | (simp; done) | (simp; omega) | omega))).up
    have zR := uR.size
    have lA := RA.lt
    have lP := RP.lt
    have lD := RD.lt
    have lA1 : w.heap.size < wR.heap.size + 1 := by omega
    have lP1 : w.heap.size + 1 + 1 < wR.heap.size + 1 := by omega
    have lD1 : w1.heap.size < wR.heap.size + 1 := by omega
    have cRA_0 : wR.cell? ⟨w.heap.size, 0, none⟩ = some (.int .i64 ax) := RA.cell 0 rfl; have fRA_0 := RA.free 0; have cRA_1 : wR.cell? ⟨w.heap.size, 1, none⟩ = some (.int .i64 ay) := RA.cell 1 rfl; have fRA_1 := RA.free 1; have cRP_0 : wR.cell? ⟨w.heap.size + 1 + 1, 0, none⟩ = some (.int .i64 0) := RP.cell 0 rfl; have fRP_0 := RP.free 0; have cRP_1 : wR.cell? ⟨w.heap.size + 1 + 1, 1, none⟩ = some (.int .i64 0) := RP.cell 1 rfl; have fRP_1 := RP.free 1; have cRD_0 : wR.cell? ⟨w1.heap.size, 0, none⟩ = some (.int .i64 dx) := RD.cell 0 rfl; have fRD_0 := RD.free 0; have cRD_1 : wR.cell? ⟨w1.heap.size, 1, none⟩ = some (.int .i64 dz) := RD.cell 1 rfl; have fRD_1 := RD.free 1
    clear hW hHeld
    go_wp2_with (first
      | (go_at_call 67; ((with_reducible refine (Rmat.add_calls wR.heap.size 0 ax dx _ (by (repeat' (first | (with_reducible assumption) | (with_reducible refine One.at _ _ ?_; (simp; done)) | (with_reducible refine One.alloc ?_ _) | (with_reducible refine One.drew ?_) | (with_reducible refine One.drewN ?_ _) | (with_reducible refine One.other ?_ (by first | (simp; done) | (simp; omega) | omega) _) | (with_reducible refine One.up ?_ (by with_reducible assumption)) | (with_reducible refine One.chg ?_ (by with_reducible assumption) (by first | (simp; done) | (simp; omega))))))).mono ?_); rw [HX.out, HK1.out]; rintro E w2 ⟨rfl, ho2, hc2⟩; have z2 := hc2.size; (try simp at z2); have RA_w2 : Row w2 w.heap.size #[.int .i64 ax, .int .i64 ay] := Row.chg (show Row _ w.heap.size #[.int .i64 ax, .int .i64 ay] by exact ra) hc2 (by simp; omega); have RP_w2 : Row w2 (w.heap.size + 1 + 1) #[.int .i64 0, .int .i64 0] := Row.chg (show Row _ (w.heap.size + 1 + 1) #[.int .i64 0, .int .i64 0] by exact ra) hc2 (by simp; omega); have RD_w2 : Row w2 w1.heap.size #[.int .i64 dx, .int .i64 dz] := Row.chg (show Row _ w1.heap.size #[.int .i64 dx, .int .i64 dz] by exact ra) hc2 (by simp; omega); have cRA_w2_0 : w2.cell? ⟨w.heap.size, 0, none⟩ = some (.int .i64 ax) := RA_w2.cell 0 rfl; have fRA_w2_0 := RA_w2.free 0; have cRA_w2_1 : w2.cell? ⟨w.heap.size, 1, none⟩ = some (.int .i64 ay) := RA_w2.cell 1 rfl; have fRA_w2_1 := RA_w2.free 1; have cRP_w2_0 : w2.cell? ⟨w.heap.size + 1 + 1, 0, none⟩ = some (.int .i64 0) := RP_w2.cell 0 rfl; have fRP_w2_0 := RP_w2.free 0; have cRP_w2_1 : w2.cell? ⟨w.heap.size + 1 + 1, 1, none⟩ = some (.int .i64 0) := RP_w2.cell 1 rfl; have fRP_w2_1 := RP_w2.free 1; have cRD_w2_0 : w2.cell? ⟨w1.heap.size, 0, none⟩ = some (.int .i64 dx) := RD_w2.cell 0 rfl; have fRD_w2_0 := RD_w2.free 0; have cRD_w2_1 : w2.cell? ⟨w1.heap.size, 1, none⟩ = some (.int .i64 dz) := RD_w2.cell 1 rfl; have fRD_w2_1 := RD_w2.free 1; have oc2 := ho2.cell; have of2 := ho2.free; have lS2 := ho2.lt; have lA2 := RA_w2.lt; have lP2 := RP_w2.lt; have lD2 := RD_w2.lt; have mA2 : w.heap.size < w2.heap.size + 1 := (by omega); have mP2 : w.heap.size + 1 + 1 < w2.heap.size + 1 := (by omega); have mD2 : w1.heap.size < w2.heap.size + 1 := (by omega); have mS2 : wR.heap.size < w2.heap.size + 1 := (by omega)))
      | (go_at_call 67; ((with_reducible refine (Rmat.add_calls wR.heap.size xe ay dz _ (ho2.chg (S := []) (by (repeat' (first | (with_reducible first | exact Chg.refl _ _ | assumption | refine Chg.alloc ?_ _ | refine Chg.drew ?_ | refine Chg.drewN ?_ _ | refine Chg.setCell ?_ ?_ _ | refine Chg.upc ?_ (by assumption) | refine Chg.call ?_ (by assumption) ?_) | (refine Or.inl ?_; (simp; done)) | (simp; done) | (simp; omega) | omega))) (by simp))).mono ?_); rw [HY.out, HK.out]; rintro E w3 ⟨rfl, ho3, hc3⟩; have z3 := hc3.size; (try simp at z3); have R11 : Row w3 w2.heap.size #[.int .i64 xx, .int .i64 0] := Row.chg (show Row _ w2.heap.size #[.int .i64 xx, .int .i64 0] by first | exact ra | exact (by exact ro)) hc3 (by simp; omega); have l11 := R11.lt; have cR11_0 : w3.cell? ⟨w2.heap.size, 0, none⟩ = some (.int .i64 xx) := R11.cell 0 rfl; have fR11_0 := R11.free 0; have cR11_1 : w3.cell? ⟨w2.heap.size, 1, none⟩ = some (.int .i64 0) := R11.cell 1 rfl; have fR11_1 := R11.free 1; have RA_w3 : Row w3 w.heap.size #[.int .i64 ax, .int .i64 ay] := Row.chg (show Row _ w.heap.size #[.int .i64 ax, .int .i64 ay] by exact ra) hc3 (by simp; omega); have RP_w3 : Row w3 (w.heap.size + 1 + 1) #[.int .i64 0, .int .i64 0] := Row.chg (show Row _ (w.heap.size + 1 + 1) #[.int .i64 0, .int .i64 0] by exact ra) hc3 (by simp; omega); have RD_w3 : Row w3 w1.heap.size #[.int .i64 dx, .int .i64 dz] := Row.chg (show Row _ w1.heap.size #[.int .i64 dx, .int .i64 dz] by exact ra) hc3 (by simp; omega); have cRA_w3_0 : w3.cell? ⟨w.heap.size, 0, none⟩ = some (.int .i64 ax) := RA_w3.cell 0 rfl; have fRA_w3_0 := RA_w3.free 0; have cRA_w3_1 : w3.cell? ⟨w.heap.size, 1, none⟩ = some (.int .i64 ay) := RA_w3.cell 1 rfl; have fRA_w3_1 := RA_w3.free 1; have cRP_w3_0 : w3.cell? ⟨w.heap.size + 1 + 1, 0, none⟩ = some (.int .i64 0) := RP_w3.cell 0 rfl; have fRP_w3_0 := RP_w3.free 0; have cRP_w3_1 : w3.cell? ⟨w.heap.size + 1 + 1, 1, none⟩ = some (.int .i64 0) := RP_w3.cell 1 rfl; have fRP_w3_1 := RP_w3.free 1; have cRD_w3_0 : w3.cell? ⟨w1.heap.size, 0, none⟩ = some (.int .i64 dx) := RD_w3.cell 0 rfl; have fRD_w3_0 := RD_w3.free 0; have cRD_w3_1 : w3.cell? ⟨w1.heap.size, 1, none⟩ = some (.int .i64 dz) := RD_w3.cell 1 rfl; have fRD_w3_1 := RD_w3.free 1; have oc3 := ho3.cell; have of3 := ho3.free; have lS3 := ho3.lt; have lA3 := RA_w3.lt; have lP3 := RP_w3.lt; have lD3 := RD_w3.lt; have mA3 : w.heap.size < w3.heap.size + 1 := (by omega); have mP3 : w.heap.size + 1 + 1 < w3.heap.size + 1 := (by omega); have mD3 : w1.heap.size < w3.heap.size + 1 := (by omega); have mS3 : wR.heap.size < w3.heap.size + 1 := (by omega))))
    go_region
    all_goals go_wp2
    all_goals (try simp only [Exit.inBlock, Exit.then])
    all_goals refine bodyPost_ret (results_ptij rfl _ _ (w.heap.size + 1 + 1) 0 0 K (show Row _ (w.heap.size + 1 + 1) #[.int .i64 0, .int .i64 0] from (by exact ro)) rfl rfl) rfl ?_
    all_goals exact ⟨by rw [HE.out], (show Chg [] w _ from by (repeat' (first | (with_reducible first | exact Chg.refl _ _ | assumption | refine Chg.alloc ?_ _ | refine Chg.drew ?_ | refine Chg.drewN ?_ _ | refine Chg.setCell ?_ ?_ _ | refine Chg.upc ?_ (by assumption) | refine Chg.call ?_ (by assumption) ?_) | (refine Or.inl ?_; (simp; done)) | (simp; done) | (simp; omega) | omega))).up⟩
  · skip
    (try simp only [lga, lgz, lgs])
    (go_simp)
    refine hK.out _ _ ?_ (fun hHeld => ?_)
    · exact s8_of (show Row _ s (rsC C F FM dk n vl) from (by have hrr := HR.out; exact ra)) (show Row _ (w.heap.size + 1) #[.int .i64 bx, .int .i64 bz] from (by exact ra))
    clear hK K
    (try simp only [Act.put, lga, lgz, lgs, lsa, lsz, lss])
    refine wpAnyH_ready (rs := [5]) (by decide +kernel) (by simp) ?_
    refine AllReadyH.cons rfl (fun K hK => ?_) (AllReadyH.nil)
    (try simp only [lga, lgz, lgs])
    (go_simp; go_at_call 66; (with_reducible refine (Rmat.delta_calls C.a C.b C.c C.d C.x C.y bx bz _).mono ?_); rw [HD.out]; rintro E w1 ⟨rfl, hu1⟩; have z1 := hu1.size; (try simp at z1); have RS1 : Row w1 s (rsC C F FM dk n vl) := HR.out.up (show Up w w1 by exact ua); have RA1 : Row w1 w.heap.size #[.int .i64 ax, .int .i64 ay] := Row.up (show Row _ w.heap.size #[.int .i64 ax, .int .i64 ay] by exact ra) hu1; have RB1 : Row w1 (w.heap.size + 1) #[.int .i64 bx, .int .i64 bz] := Row.up (show Row _ (w.heap.size + 1) #[.int .i64 bx, .int .i64 bz] by exact ra) hu1; have RP1 : Row w1 (w.heap.size + 1 + 1) #[.int .i64 0, .int .i64 0] := Row.up (show Row _ (w.heap.size + 1 + 1) #[.int .i64 0, .int .i64 0] by exact ra) hu1; have RD1 : Row w1 (w.heap.size + 1 + 1 + 1) #[.int .i64 0, .int .i64 0] := Row.up (show Row _ (w.heap.size + 1 + 1 + 1) #[.int .i64 0, .int .i64 0] by exact ra) hu1; have lrd := RD1.lt; have cRD1_0 : w1.cell? ⟨w.heap.size + 1 + 1 + 1, 0, none⟩ = some (.int .i64 0) := RD1.cell 0 rfl; have fRD1_0 := RD1.free 0; have cRD1_1 : w1.cell? ⟨w.heap.size + 1 + 1 + 1, 1, none⟩ = some (.int .i64 0) := RD1.cell 1 rfl; have fRD1_1 := RD1.free 1;  have u1 : Up w w1 := (by exact ua); (try dsimp only))
    refine hK.out _ _ ?_ (fun hHeld => ?_)
    · exact s8_of (RS1) (RB1)
    clear hK K
    (try simp only [Act.put, lga, lgz, lgs, lsa, lsz, lss])
    refine wpAnyH_take (i := 6) (v := ?_) rfl (by kernel_rfl) (by kernel_rfl) (by kernel_rfl) (fun _ _ _ h => h) (Or.inl ⟨by rfl, ?_⟩) (by assumption) ?_
    rotate_left
    · intro w2 hSw
      (try dsimp only at hSw)
      obtain ⟨s0, s1, s2, s3, s4, s5, s6, s7⟩ := hSw
      go_simp
      (try (with_reducible rfl))
    (try simp only [Act.put, lga, lgz, lgs, lsa, lsz, lss])
    refine wpAnyH_take (i := 7) (v := ?_) rfl (by kernel_rfl) (by kernel_rfl) (by kernel_rfl) (fun _ _ _ h => h) (Or.inl ⟨by rfl, ?_⟩) (by assumption) ?_
    rotate_left
    · intro w2 hSw
      (try dsimp only at hSw)
      obtain ⟨s0, s1, s2, s3, s4, s5, s6, s7⟩ := hSw
      go_simp
      (try (with_reducible rfl))
    (try simp only [Act.put, lga, lgz, lgs, lsa, lsz, lss])
    refine wpAnyH_take (i := 8) (v := ?_) rfl (by kernel_rfl) (by kernel_rfl) (by kernel_rfl) (fun _ _ _ h => h) (Or.inl ⟨by rfl, ?_⟩) (by assumption) ?_
    rotate_left
    · intro w2 hSw
      (try dsimp only at hSw)
      obtain ⟨s0, s1, s2, s3, s4, s5, s6, s7⟩ := hSw
      go_simp
      (try (with_reducible rfl))
    (try simp only [Act.put, lga, lgz, lgs, lsa, lsz, lss])
    refine wpAnyH_ready (rs := [10]) (by decide +kernel) (by simp) ?_
    refine AllReadyH.cons rfl (fun K hK => ?_) (AllReadyH.nil)
    (try simp only [lga, lgz, lgs])
    (go_simp)
    refine hK.out _ _ ?_ (fun hHeld => ?_)
    · exact s8_of (show Row _ s (rsC C F FM dk n vl) from (by exact ra)) (show Row _ (w.heap.size + 1) #[.int .i64 bx, .int .i64 bz] from (by exact ra))
    clear hK K
    (try simp only [Act.put, lga, lgz, lgs, lsa, lsz, lss])
    refine wpAnyH_take (i := 11) (v := ?_) rfl (by kernel_rfl) (by kernel_rfl) (by kernel_rfl) (fun _ _ _ h => h) (Or.inl ⟨by rfl, ?_⟩) (by assumption) ?_
    rotate_left
    · intro w2 hSw
      (try dsimp only at hSw)
      obtain ⟨s0, s1, s2, s3, s4, s5, s6, s7⟩ := hSw
      go_simp
      (try (with_reducible rfl))
    (try simp only [Act.put, lga, lgz, lgs, lsa, lsz, lss])
    refine wpAnyH_done (by kernel_rfl) ?_ _
    (try dsimp only)
    generalize hW : World.setCell (World.setCell _ _ _) _ _ = wR
    have RA : Row wR w.heap.size #[.int .i64 ax, .int .i64 ay] := by rw [← hW]; exact (by exact ro)
    have RP : Row wR (w.heap.size + 1 + 1) #[.int .i64 0, .int .i64 0] := by rw [← hW]; exact (by exact ro)
    have RD : Row wR (w.heap.size + 1 + 1 + 1) #[.int .i64 dx, .int .i64 dz] := by rw [← hW]; first | exact Row.made _ _ _ | exact (by exact ro)
    have uR : Up w wR := by rw [← hW]; exact (show Chg [] w _ from by (repeat' (first | (with_reducible first | exact Chg.refl _ _ | assumption | refine Chg.alloc ?_ _ | refine Chg.drew ?_ | refine Chg.drewN ?_ _ | refine Chg.setCell ?_ ?_ _ | refine Chg.upc ?_ (by assumption) | refine Chg.call ?_ (by assumption) ?_) | (refine Or.inl ?_; (simp; done)) | (simp; done) | (simp; omega) | omega))).up
    have zR := uR.size
    have lA := RA.lt
    have lP := RP.lt
    have lD := RD.lt
    have lA1 : w.heap.size < wR.heap.size + 1 := by omega
    have lP1 : w.heap.size + 1 + 1 < wR.heap.size + 1 := by omega
    have lD1 : (w.heap.size + 1 + 1 + 1) < wR.heap.size + 1 := by omega
    have cRA_0 : wR.cell? ⟨w.heap.size, 0, none⟩ = some (.int .i64 ax) := RA.cell 0 rfl; have fRA_0 := RA.free 0; have cRA_1 : wR.cell? ⟨w.heap.size, 1, none⟩ = some (.int .i64 ay) := RA.cell 1 rfl; have fRA_1 := RA.free 1; have cRP_0 : wR.cell? ⟨w.heap.size + 1 + 1, 0, none⟩ = some (.int .i64 0) := RP.cell 0 rfl; have fRP_0 := RP.free 0; have cRP_1 : wR.cell? ⟨w.heap.size + 1 + 1, 1, none⟩ = some (.int .i64 0) := RP.cell 1 rfl; have fRP_1 := RP.free 1; have cRD_0 : wR.cell? ⟨w.heap.size + 1 + 1 + 1, 0, none⟩ = some (.int .i64 dx) := RD.cell 0 rfl; have fRD_0 := RD.free 0; have cRD_1 : wR.cell? ⟨w.heap.size + 1 + 1 + 1, 1, none⟩ = some (.int .i64 dz) := RD.cell 1 rfl; have fRD_1 := RD.free 1
    clear hW hHeld
    go_wp2_with (first
      | (go_at_call 67; ((with_reducible refine (Rmat.add_calls wR.heap.size 0 ax dx _ (by (repeat' (first | (with_reducible assumption) | (with_reducible refine One.at _ _ ?_; (simp; done)) | (with_reducible refine One.alloc ?_ _) | (with_reducible refine One.drew ?_) | (with_reducible refine One.drewN ?_ _) | (with_reducible refine One.other ?_ (by first | (simp; done) | (simp; omega) | omega) _) | (with_reducible refine One.up ?_ (by with_reducible assumption)) | (with_reducible refine One.chg ?_ (by with_reducible assumption) (by first | (simp; done) | (simp; omega))))))).mono ?_); rw [HX.out, HK1.out]; rintro E w2 ⟨rfl, ho2, hc2⟩; have z2 := hc2.size; (try simp at z2); have RA_w2 : Row w2 w.heap.size #[.int .i64 ax, .int .i64 ay] := Row.chg (show Row _ w.heap.size #[.int .i64 ax, .int .i64 ay] by exact ra) hc2 (by simp; omega); have RP_w2 : Row w2 (w.heap.size + 1 + 1) #[.int .i64 0, .int .i64 0] := Row.chg (show Row _ (w.heap.size + 1 + 1) #[.int .i64 0, .int .i64 0] by exact ra) hc2 (by simp; omega); have RD_w2 : Row w2 (w.heap.size + 1 + 1 + 1) #[.int .i64 dx, .int .i64 dz] := Row.chg (show Row _ (w.heap.size + 1 + 1 + 1) #[.int .i64 dx, .int .i64 dz] by exact ra) hc2 (by simp; omega); have cRA_w2_0 : w2.cell? ⟨w.heap.size, 0, none⟩ = some (.int .i64 ax) := RA_w2.cell 0 rfl; have fRA_w2_0 := RA_w2.free 0; have cRA_w2_1 : w2.cell? ⟨w.heap.size, 1, none⟩ = some (.int .i64 ay) := RA_w2.cell 1 rfl; have fRA_w2_1 := RA_w2.free 1; have cRP_w2_0 : w2.cell? ⟨w.heap.size + 1 + 1, 0, none⟩ = some (.int .i64 0) := RP_w2.cell 0 rfl; have fRP_w2_0 := RP_w2.free 0; have cRP_w2_1 : w2.cell? ⟨w.heap.size + 1 + 1, 1, none⟩ = some (.int .i64 0) := RP_w2.cell 1 rfl; have fRP_w2_1 := RP_w2.free 1; have cRD_w2_0 : w2.cell? ⟨w.heap.size + 1 + 1 + 1, 0, none⟩ = some (.int .i64 dx) := RD_w2.cell 0 rfl; have fRD_w2_0 := RD_w2.free 0; have cRD_w2_1 : w2.cell? ⟨w.heap.size + 1 + 1 + 1, 1, none⟩ = some (.int .i64 dz) := RD_w2.cell 1 rfl; have fRD_w2_1 := RD_w2.free 1; have oc2 := ho2.cell; have of2 := ho2.free; have lS2 := ho2.lt; have lA2 := RA_w2.lt; have lP2 := RP_w2.lt; have lD2 := RD_w2.lt; have mA2 : w.heap.size < w2.heap.size + 1 := (by omega); have mP2 : w.heap.size + 1 + 1 < w2.heap.size + 1 := (by omega); have mD2 : (w.heap.size + 1 + 1 + 1) < w2.heap.size + 1 := (by omega); have mS2 : wR.heap.size < w2.heap.size + 1 := (by omega)))
      | (go_at_call 67; ((with_reducible refine (Rmat.add_calls wR.heap.size xe ay dz _ (ho2.chg (S := []) (by (repeat' (first | (with_reducible first | exact Chg.refl _ _ | assumption | refine Chg.alloc ?_ _ | refine Chg.drew ?_ | refine Chg.drewN ?_ _ | refine Chg.setCell ?_ ?_ _ | refine Chg.upc ?_ (by assumption) | refine Chg.call ?_ (by assumption) ?_) | (refine Or.inl ?_; (simp; done)) | (simp; done) | (simp; omega) | omega))) (by simp))).mono ?_); rw [HY.out, HK.out]; rintro E w3 ⟨rfl, ho3, hc3⟩; have z3 := hc3.size; (try simp at z3); have R11 : Row w3 w2.heap.size #[.int .i64 xx, .int .i64 0] := Row.chg (show Row _ w2.heap.size #[.int .i64 xx, .int .i64 0] by first | exact ra | exact (by exact ro)) hc3 (by simp; omega); have l11 := R11.lt; have cR11_0 : w3.cell? ⟨w2.heap.size, 0, none⟩ = some (.int .i64 xx) := R11.cell 0 rfl; have fR11_0 := R11.free 0; have cR11_1 : w3.cell? ⟨w2.heap.size, 1, none⟩ = some (.int .i64 0) := R11.cell 1 rfl; have fR11_1 := R11.free 1; have RA_w3 : Row w3 w.heap.size #[.int .i64 ax, .int .i64 ay] := Row.chg (show Row _ w.heap.size #[.int .i64 ax, .int .i64 ay] by exact ra) hc3 (by simp; omega); have RP_w3 : Row w3 (w.heap.size + 1 + 1) #[.int .i64 0, .int .i64 0] := Row.chg (show Row _ (w.heap.size + 1 + 1) #[.int .i64 0, .int .i64 0] by exact ra) hc3 (by simp; omega); have RD_w3 : Row w3 (w.heap.size + 1 + 1 + 1) #[.int .i64 dx, .int .i64 dz] := Row.chg (show Row _ (w.heap.size + 1 + 1 + 1) #[.int .i64 dx, .int .i64 dz] by exact ra) hc3 (by simp; omega); have cRA_w3_0 : w3.cell? ⟨w.heap.size, 0, none⟩ = some (.int .i64 ax) := RA_w3.cell 0 rfl; have fRA_w3_0 := RA_w3.free 0; have cRA_w3_1 : w3.cell? ⟨w.heap.size, 1, none⟩ = some (.int .i64 ay) := RA_w3.cell 1 rfl; have fRA_w3_1 := RA_w3.free 1; have cRP_w3_0 : w3.cell? ⟨w.heap.size + 1 + 1, 0, none⟩ = some (.int .i64 0) := RP_w3.cell 0 rfl; have fRP_w3_0 := RP_w3.free 0; have cRP_w3_1 : w3.cell? ⟨w.heap.size + 1 + 1, 1, none⟩ = some (.int .i64 0) := RP_w3.cell 1 rfl; have fRP_w3_1 := RP_w3.free 1; have cRD_w3_0 : w3.cell? ⟨w.heap.size + 1 + 1 + 1, 0, none⟩ = some (.int .i64 dx) := RD_w3.cell 0 rfl; have fRD_w3_0 := RD_w3.free 0; have cRD_w3_1 : w3.cell? ⟨w.heap.size + 1 + 1 + 1, 1, none⟩ = some (.int .i64 dz) := RD_w3.cell 1 rfl; have fRD_w3_1 := RD_w3.free 1; have oc3 := ho3.cell; have of3 := ho3.free; have lS3 := ho3.lt; have lA3 := RA_w3.lt; have lP3 := RP_w3.lt; have lD3 := RD_w3.lt; have mA3 : w.heap.size < w3.heap.size + 1 := (by omega); have mP3 : w.heap.size + 1 + 1 < w3.heap.size + 1 := (by omega); have mD3 : (w.heap.size + 1 + 1 + 1) < w3.heap.size + 1 := (by omega); have mS3 : wR.heap.size < w3.heap.size + 1 := (by omega))))
    go_region
    all_goals go_wp2
    all_goals (try simp only [Exit.inBlock, Exit.then])
    all_goals refine bodyPost_ret (results_ptij rfl _ _ (w.heap.size + 1 + 1) 0 0 K (show Row _ (w.heap.size + 1 + 1) #[.int .i64 0, .int .i64 0] from (by exact ro)) rfl rfl) rfl ?_
    all_goals exact ⟨by rw [HE.out], (show Chg [] w _ from by (repeat' (first | (with_reducible first | exact Chg.refl _ _ | assumption | refine Chg.alloc ?_ _ | refine Chg.drew ?_ | refine Chg.drewN ?_ _ | refine Chg.setCell ?_ ?_ _ | refine Chg.upc ?_ (by assumption) | refine Chg.call ?_ (by assumption) ?_) | (refine Or.inl ?_; (simp; done)) | (simp; done) | (simp; omega) | omega))).up⟩

theorem led_calls (s : Nat) (C : M6) (F : Int) (FM : M6) (dk : Bool) (n : Int) (vl : Value) (ax ay bx bz : Int) (w : World) (h : Row w s (rsC C F FM dk n vl)) :
    Calls Tryz.prog 31 #[.pointer (some ⟨s, 0, none⟩), .agg #[.int .i64 ax, .int .i64 ay], .agg #[.int .i64 bx, .int .i64 bz]] w fun E w' => E = ptE (movedR C ax ay bx bz) ∧ Up w w' := by
  obtain ⟨⟨⟨dx, dz⟩, de⟩, hD⟩ : ∃ D, delta C.a C.b C.c C.d bx bz = D := ⟨_, rfl⟩
  by_cases h0 : de = 0
  · subst h0
    obtain ⟨⟨xx, xe⟩, hX⟩ : ∃ X, add ax dx = X := ⟨_, rfl⟩
    obtain ⟨⟨yy, ye⟩, hY⟩ : ∃ Y, add ay dz = Y := ⟨_, rfl⟩
    by_cases hK : keep xe ye = 0
    · exact led_good s C F FM dk n vl ax ay bx bz w h dx dz xx xe yy ye _ hD hX hY rfl hK
    · exact led_over s C F FM dk n vl ax ay bx bz w h dx dz xx xe yy ye _ hD hX hY rfl hK
  · exact led_bad s C F FM dk n vl ax ay bx bz w h dx dz de hD h0

end Go.Proofs.YtjdbefpfjhdmoaaGreatDoor.Sh
end

section
namespace Go.Proofs.YtjdbefpfjhdmoaaGreatDoor.Sh
open List renaming getElem_toArray → lga, getElem_cons_zero → lgz, getElem_cons_succ → lgs, setIfInBounds_toArray → lsa, set_cons_zero → lsz, set_cons_succ → lss
open Go.Proofs.YtjdbefpfjhdmoaaGreatDoor.ZGC
open Go.ChangeShapes Go.WideShapes Go.ChangeAt Go.RowKit
open Go.Proofs.YtjdbefpfjhdmoaaGreatDoor.Gs
open Go.Proofs.YtjdbefpfjhdmoaaGreatDoor.MatM (M6)
set_option linter.unusedVariables false
set_option linter.unusedSimpArgs false

theorem wp_append_any {P : Program} {w : World} {o : Oper} {a : Act} {K : Act → World → Prop} {Q : Exit → Act → World → Prop} (hgd : o.guard = none) (s x : Operand) (t : TypeId)
    (ho : o.op = .call { callee := .builtin .append, args := #[s, x], argTypes := #[t, t] })
    (base : Nat) (e : TypeId) (i : TypeInfo) (z : Value) (size bytes : Nat) (ht : P.underlying t = some (.slice e)) (hi : P.info? e = some i) (hz : i.zero = some z)
    (hsize : i.size = size) (hby : i.bytes = bytes) (hzs : z.cells.size = size) (hsz : 0 < size)
    (v : Value) (n : Nat) (xs : List Value) (hs : a.eval s = v) (hown : w.ownsRow base e size v n xs)
    (ao : Option Addr) (m c : Nat) (news : List Value) (hx : a.eval x = .slice ao m c) (hl : news.length = m * size) (hnone : ao = none → m = 0 ∧ c = 0) (hnews : ∀ ad, ao = some ad → ∀ j u, news[j]? = some u → w.cell? (ad.add j) = some u) (h1 : ∀ u ∈ news, u.oneCell' = true)
    (h63 : n + m ≤ maxLen) (hbytes : (n + m) * bytes ≤ 140737488355328) (hbase : base ≤ w.heap.size)
    (hK : ∀ v' w', w'.ownsRow base e size v' (n + m) (xs ++ news) → w.grownBy w' v.ownBlock → K (a.put o.dst v') w') : Oper.wp P o a w K Q := by
  have h := step_append_any (Q := Q) (ops := #[]) (E := True) hgd s x t ho base e i z size bytes ht hi hz hsize hby hzs hsz v n xs hs hown ao m c news hx hl hnone hnews h1 h63 hbytes hbase hK
  rwa [if_pos (by simp [Region.wanted, hgd])] at h
theorem made_it {w : World} {g base : Nat} (e : g = w.heap.size) (hb : base ≤ g) : (w.alloc (.cells #[] 79)).ownsRow base 79 22 (.slice (some ⟨g, 0, none⟩) 0 0) 0 [] := by
  subst e
  exact World.ownsRow_made w #[] 0 hb (by decide) rfl
theorem raw_upB {w w1 : World} {base : Nat} {e : TypeId} {k : Nat} {v : Value} {n : Nat} {xs : List Value} (h : w.ownsRow base e k v n xs) (hc : Up w w1) : w1.ownsRow base e k v n xs := by
  refine ⟨h.1, ?_⟩
  rcases h.2 with h1 | ⟨g, cap, cur, hv, hb, hg, hr⟩
  · exact Or.inl h1
  · refine Or.inr ⟨g, cap, cur, hv, hb, ?_, hr⟩
    rw [hc.block g (Array.getElem?_eq_some_iff.1 hg).1]
    exact hg
theorem owned_base {w : World} {base : Nat} {e : TypeId} {k : Nat} {v : Value} {n : Nat} {xs : List Value} (h : w.ownsRow base e k v n xs) : w.ownsRow 0 e k v n xs ∧ ∀ g, v.ownBlock = some g → base ≤ g := by
  rcases h.2 with ⟨h1, h2⟩ | ⟨g, cap, cur, hv, hb, hg, hr⟩
  · exact ⟨⟨h.1, Or.inl ⟨h1, h2⟩⟩, fun g hg => by rw [h1] at hg; cases hg⟩
  · exact ⟨⟨h.1, Or.inr ⟨g, cap, cur, hv, Nat.zero_le _, hg, hr⟩⟩, fun g' hg' => by rw [hv] at hg'; simp only [Value.ownBlock, Option.some.injEq] at hg'; omega⟩

set_option maxRecDepth 8000 in
set_option maxHeartbeats 8000000 in
theorem rlay_calls (m : Nat) (rv : Value) (l : List Cl) (fn : Int) (mm : M6) (ca : Option Addr) (cc : Nat) (ba : Option Addr) (bc : Nat) (bs : List Int) (w : World) (h : Row w m (cvC rv)) (hi : Its w rv l) (hl : l.length < 4096) :
    Calls Tryz.prog 33 #[.pointer (some ⟨m, 0, none⟩), .agg #[.int .i64 4, .slice none 0 0, .int .i64 1, .int .i64 0, .int .i64 0, .int .i64 0, .int .i64 0, .slice ca 0 cc, .int .i64 0, .int .i64 0, .int .i64 0, .int .i64 0, .slice none 0 0, .int .i64 0, .int .i64 fn, .int .i64 mm.a, .int .i64 mm.b, .int .i64 mm.c, .int .i64 mm.d, .int .i64 mm.x, .int .i64 mm.y, .slice ba bs.length bc]] w fun E w' => E = .returned (.int .i64 0) ∧ ∃ rv', Row w' m (cvC rv') ∧ Its w' rv' (l ++ [⟨⟨fn, mm, bs⟩, ca, cc, ba, bc⟩]) ∧ Chg [m] w w' ∧ ∀ g ∈ own rv', w.heap.size ≤ g := by
  have HI := Lib.hid hi
  obtain ⟨ao, cap, rfl⟩ := owned_val hi
  have HNW := Lib.hid (show ∀ ad, ao = some ad → ∀ j u, (clCells l)[j]? = some u → ∀ w1, Up w w1 → w1.cell? (ad.add j) = some u from fun ad e j u hj w1 hu => by
    rcases owned_form hi with ⟨e2, _⟩ | ⟨g, cap2, e2, _, _, hb⟩
    · injection e2 with e3; rw [e3] at e; cases e
    · injection e2 with e3 _ _
      rw [e3] at e
      injection e with e
      subst e e3
      exact (owned_up hi hu).cells rfl j u hj)
  have HNN := Lib.hid (show ao = none → l.length = 0 ∧ cap = 0 from fun e => by
    rcases owned_form hi with ⟨e2, h0⟩ | ⟨g, cap2, e2, _, _, hb⟩
    · injection e2 with _ _ e3; exact ⟨h0, e3⟩
    · injection e2 with e3; rw [e3] at e; cases e)
  have HR := Lib.hid h
  have HLM := Lib.hid h.lt
  have q2 : w.cell? ⟨m, 2, none⟩ = some (.slice ao l.length cap) := h.cell 2 rfl
  have lm := h.lt
  have lm1 : m < w.heap.size + 1 := Nat.lt_succ_of_lt lm
  have lm2 : m < w.heap.size + 1 + 1 := Nat.lt_succ_of_lt lm1
  have lm3 : m < w.heap.size + 1 + 1 + 1 := Nat.lt_succ_of_lt lm2
  have t1 : decide ((4096 : Int) ≤ (l.length : Int)) = false := decide_eq_false (by omega)
  clear h hi
  obtain ⟨i0, hi, hz0, hz1, hz2⟩ := info_parts infoIt3
  go_enter Tryz.func33, Tryz.ntmps33
  go_wp2
  refine wp_region_held_drew (S := fun w' => Row w' w.heap.size #[.int .i64 4, .slice none 0 0, .int .i64 1, .int .i64 0, .int .i64 0, .int .i64 0, .int .i64 0, .slice ca 0 cc, .int .i64 0, .int .i64 0, .int .i64 0, .int .i64 0, .slice none 0 0, .int .i64 0, .int .i64 fn, .int .i64 mm.a, .int .i64 mm.b, .int .i64 mm.c, .int .i64 mm.d, .int .i64 mm.x, .int .i64 mm.y, .slice ba bs.length bc]) (by kernel_rfl) ?_ (fun hHeld => ?_)
  · exact Row.drew (show Row _ w.heap.size #[.int .i64 4, .slice none 0 0, .int .i64 1, .int .i64 0, .int .i64 0, .int .i64 0, .int .i64 0, .slice ca 0 cc, .int .i64 0, .int .i64 0, .int .i64 0, .int .i64 0, .slice none 0 0, .int .i64 0, .int .i64 fn, .int .i64 mm.a, .int .i64 mm.b, .int .i64 mm.c, .int .i64 mm.d, .int .i64 mm.x, .int .i64 mm.y, .slice ba bs.length bc] from (by exact ra))
  refine wpAnyH_take (i := 0) (v := ?_) rfl (by kernel_rfl) (by kernel_rfl) (by kernel_rfl) (fun _ _ _ h => h) (Or.inl ⟨by rfl, ?_⟩) (by assumption) ?_
  rotate_left
  · intro w2 hSw
    (try dsimp only at hSw)
    (try (obtain ⟨hs1, hs2, hs3⟩ := hSw))
    go_simp
    (try (with_reducible rfl))
  (try simp only [Act.put, lga, lgz, lgs, lsa, lsz, lss])
  refine wpAnyH_take (i := 2) (v := ?_) rfl (by kernel_rfl) (by kernel_rfl) (by kernel_rfl) (fun _ _ _ h => h) (Or.inl ⟨by rfl, ?_⟩) (by assumption) ?_
  rotate_left
  · intro w2 hSw
    (try dsimp only at hSw)
    (try (obtain ⟨hs1, hs2, hs3⟩ := hSw))
    go_simp
    (try (with_reducible rfl))
  (try simp only [Act.put, lga, lgz, lgs, lsa, lsz, lss])
  refine wpAnyH_take (i := 3) (v := ?_) rfl (by kernel_rfl) (by kernel_rfl) (by kernel_rfl) (fun _ _ _ h => h) (Or.inl ⟨by rfl, ?_⟩) (by assumption) ?_
  rotate_left
  · intro w2 hSw
    (try dsimp only at hSw)
    (try (obtain ⟨hs1, hs2, hs3⟩ := hSw))
    go_simp
    (try (with_reducible rfl))
  (try simp only [Act.put, lga, lgz, lgs, lsa, lsz, lss])
  refine wpAnyH_take (i := 4) (v := ?_) rfl (by kernel_rfl) (by kernel_rfl) (by kernel_rfl) (fun _ _ _ h => h) (Or.inl ⟨by rfl, ?_⟩) (by assumption) ?_
  rotate_left
  · intro w2 hSw
    (try dsimp only at hSw)
    (try (obtain ⟨hs1, hs2, hs3⟩ := hSw))
    go_simp
    (try (with_reducible rfl))
  (try simp only [Act.put, lga, lgz, lgs, lsa, lsz, lss])
  refine wpAnyH_take (i := 5) (v := ?_) rfl (by kernel_rfl) (by kernel_rfl) (by kernel_rfl) (fun _ _ _ h => h) (Or.inl ⟨by rfl, ?_⟩) (by assumption) ?_
  rotate_left
  · intro w2 hSw
    (try dsimp only at hSw)
    (try (obtain ⟨hs1, hs2, hs3⟩ := hSw))
    go_simp
    (try (with_reducible rfl))
  (try simp only [Act.put, lga, lgz, lgs, lsa, lsz, lss])
  refine wpAnyH_take (i := 8) rfl (by kernel_rfl) (by kernel_rfl) (by kernel_rfl) (fun _ _ _ h => h) (yieldsIf_load_mid (by rfl) 79 (.tmp 3) rfl w.heap.size 0 rfl #[.int .i64 4, .slice none 0 0, .int .i64 1, .int .i64 0, .int .i64 0, .int .i64 0, .int .i64 0, .slice ca 0 cc, .int .i64 0, .int .i64 0, .int .i64 0, .int .i64 0, .slice none 0 0, .int .i64 0, .int .i64 fn, .int .i64 mm.a, .int .i64 mm.b, .int .i64 mm.c, .int .i64 mm.d, .int .i64 mm.x, .int .i64 mm.y, .slice ba bs.length bc].toList _ (fun _ h => rng0 h) Tryz.underlying79 rfl (by exact infoIt)) (by assumption) ?_
  (try simp only [Act.put, lga, lgz, lgs, lsa, lsz, lss])
  refine wpAnyH_ready (rs := [1, 6, 9]) (by decide +kernel) (by simp) ?_
  refine AllReadyH.cons rfl (fun K hK => ?_) (AllReadyH.cons rfl (fun K hK => ?_) (AllReadyH.cons rfl (fun K hK => ?_) (AllReadyH.nil)))
  · skip
    (try simp only [lga, lgz, lgs])
    (go_simp)
    refine hK.out _ _ ?_ (fun hHeld => ?_)
    · exact (show Row _ w.heap.size #[.int .i64 4, .slice none 0 0, .int .i64 1, .int .i64 0, .int .i64 0, .int .i64 0, .int .i64 0, .slice ca 0 cc, .int .i64 0, .int .i64 0, .int .i64 0, .int .i64 0, .slice none 0 0, .int .i64 0, .int .i64 fn, .int .i64 mm.a, .int .i64 mm.b, .int .i64 mm.c, .int .i64 mm.d, .int .i64 mm.x, .int .i64 mm.y, .slice ba bs.length bc] from (by exact ra))
    clear hK K
    (try simp only [Act.put, lga, lgz, lgs, lsa, lsz, lss])
    refine wpAnyH_ready (rs := [6, 9]) (by decide +kernel) (by simp) ?_
    refine AllReadyH.cons rfl (fun K hK => ?_) (AllReadyH.cons rfl (fun K hK => ?_) (AllReadyH.nil))
    · skip
      (try simp only [lga, lgz, lgs])
      (go_simp)
      refine hK.out _ _ ?_ (fun hHeld => ?_)
      · exact hHeld
      clear hK K
      (try simp only [Act.put, lga, lgz, lgs, lsa, lsz, lss])
      refine wpAnyH_ready (rs := [7, 9]) (by decide +kernel) (by simp) ?_
      refine AllReadyH.cons rfl (fun K hK => ?_) (AllReadyH.cons rfl (fun K hK => ?_) (AllReadyH.nil))
      · skip
        (try simp only [lga, lgz, lgs])
        (rw [if_pos (by rfl)]; refine wp_append_any rfl (.tmp 13) (.tmp 18) 43 rfl (w.heap.size + 1) 79 i0 (.agg #[.int .i64 0, .slice none 0 0, .int .i64 0, .int .i64 0, .int .i64 0, .int .i64 0, .int .i64 0, .slice none 0 0, .int .i64 0, .int .i64 0, .int .i64 0, .int .i64 0, .slice none 0 0, .int .i64 0, .int .i64 0, .int .i64 0, .int .i64 0, .int .i64 0, .int .i64 0, .int .i64 0, .int .i64 0, .slice none 0 0]) 22 240 Tryz.underlying43 hi hz0 hz1 hz2 rfl (by decide) (.slice (some ⟨w.heap.size + 1, 0, none⟩) 0 0) 0 [] rfl (made_any (by first | exact made_it (by first | (simp; done) | rfl) (by omega) | exact raw_upB (made_it (by first | (simp; done) | rfl) (by omega)) (Up.drew (Up.refl _)) | exact raw_upB (made_it (by first | (simp; done) | rfl) (by omega)) (Up.drew (Up.alloc (Up.refl _) _)) | exact raw_upB (made_it (by first | (simp; done) | rfl) (by omega)) (Up.alloc (Up.refl _) _))) ao l.length cap (clCells l) rfl (clCells_length l) HNN.out (fun ad e j u hj => (HNW.out ad e j u hj _ (by exact ua))) (clCells_one l) (by unfold maxLen; omega) (by omega) (by first | (simp; done) | (simp; omega) | omega) ?_; intro va wa hown hgr; have za := hgr.size; (try simp at za); have hCa : Chg [w.heap.size + 1] _ wa := Chg.grown (Chg.refl _ _) hgr (fun k hk => Or.inl (by simp only [Value.ownBlock, Option.some.injEq] at hk; simp [hk])); have HUA := Lib.hid (show Up w wa from ((show Chg [] w _ by (repeat' (first | (with_reducible first | exact Chg.refl _ _ | assumption | refine Chg.alloc ?_ _ | refine Chg.drew ?_ | refine Chg.drewN ?_ _ | refine Chg.setCell ?_ ?_ _ | refine Chg.upc ?_ (by assumption) | refine Chg.call ?_ (by assumption) ?_) | (refine Or.inl ?_; (simp; done)) | (simp; done) | (simp; omega) | omega))).call hCa (fun k hk => Or.inr (by simp at hk; omega))).up); have RIa : Row wa w.heap.size #[.int .i64 4, .slice none 0 0, .int .i64 1, .int .i64 0, .int .i64 0, .int .i64 0, .int .i64 0, .slice ca 0 cc, .int .i64 0, .int .i64 0, .int .i64 0, .int .i64 0, .slice none 0 0, .int .i64 0, .int .i64 fn, .int .i64 mm.a, .int .i64 mm.b, .int .i64 mm.c, .int .i64 mm.d, .int .i64 mm.x, .int .i64 mm.y, .slice ba bs.length bc] := Row.chg (show Row _ w.heap.size #[.int .i64 4, .slice none 0 0, .int .i64 1, .int .i64 0, .int .i64 0, .int .i64 0, .int .i64 0, .slice ca 0 cc, .int .i64 0, .int .i64 0, .int .i64 0, .int .i64 0, .slice none 0 0, .int .i64 0, .int .i64 fn, .int .i64 mm.a, .int .i64 mm.b, .int .i64 mm.c, .int .i64 mm.d, .int .i64 mm.x, .int .i64 mm.y, .slice ba bs.length bc] from (by exact ra)) hCa (by first | (simp; done) | (simp; omega)); have lIa := RIa.lt; have HO := Lib.hid hown; have HA := Lib.hid (owned_base hown).2; clear hown hCa hgr)
        refine hK.out _ _ ?_ (fun hHeld => ?_)
        · exact RIa
        clear hK K
        (try simp only [Act.put, lga, lgz, lgs, lsa, lsz, lss])
        refine wpAnyH_ready (rs := [9]) (by decide +kernel) (by simp) ?_
        refine AllReadyH.cons rfl (fun K hK => ?_) (AllReadyH.nil)
        (try simp only [lga, lgz, lgs])
        (go_simp)
        refine hK.out _ _ ?_ (fun hHeld => ?_)
        · exact (show Row _ w.heap.size #[.int .i64 4, .slice none 0 0, .int .i64 1, .int .i64 0, .int .i64 0, .int .i64 0, .int .i64 0, .slice ca 0 cc, .int .i64 0, .int .i64 0, .int .i64 0, .int .i64 0, .slice none 0 0, .int .i64 0, .int .i64 fn, .int .i64 mm.a, .int .i64 mm.b, .int .i64 mm.c, .int .i64 mm.d, .int .i64 mm.x, .int .i64 mm.y, .slice ba bs.length bc] from (by exact ra))
        clear hK K
        (try simp only [Act.put, lga, lgz, lgs, lsa, lsz, lss])
        refine wpAnyH_ready (rs := [10]) (by decide +kernel) (by simp) ?_
        refine AllReadyH.cons rfl (fun K hK => ?_) (AllReadyH.nil)
        (try simp only [lga, lgz, lgs])
        (rw [if_pos (by rfl)]; refine wp_append_lies _ (.tmp 19) (.tmp 21) 43 rfl (w.heap.size + 1) 79 i0 (.agg #[.int .i64 0, .slice none 0 0, .int .i64 0, .int .i64 0, .int .i64 0, .int .i64 0, .int .i64 0, .slice none 0 0, .int .i64 0, .int .i64 0, .int .i64 0, .int .i64 0, .slice none 0 0, .int .i64 0, .int .i64 0, .int .i64 0, .int .i64 0, .int .i64 0, .int .i64 0, .int .i64 0, .int .i64 0, .slice none 0 0]) 22 240 Tryz.underlying43 hi hz0 hz1 hz2 rfl (by decide) va (0 + l.length) ([] ++ clCells l) rfl (raw_upB HO.out (by exact ua)) ⟨wa.heap.size, 0, none⟩ 1 1 #[.int .i64 4, .slice none 0 0, .int .i64 1, .int .i64 0, .int .i64 0, .int .i64 0, .int .i64 0, .slice ca 0 cc, .int .i64 0, .int .i64 0, .int .i64 0, .int .i64 0, .slice none 0 0, .int .i64 0, .int .i64 fn, .int .i64 mm.a, .int .i64 mm.b, .int .i64 mm.c, .int .i64 mm.d, .int .i64 mm.x, .int .i64 mm.y, .slice ba bs.length bc].toList rfl rfl (news_at (by exact ra) rfl) (by simp [Value.oneCell']) (by decide) (by unfold maxLen; omega) (by omega) (by first | omega | (simp; omega)) _ rfl ?_; intro g2 cap2 w2 hown2 hgr2 hat hg2; have z2 := hgr2.size; (try simp at z2); have hC2 : Chg (own va) wa w2 := Chg.grown (Chg.of_up (by exact ua)) hgr2 (fun k hk => Or.inl (own_mem hk)); have RI2 : Row w2 w.heap.size #[.int .i64 4, .slice none 0 0, .int .i64 1, .int .i64 0, .int .i64 0, .int .i64 0, .int .i64 0, .slice ca 0 cc, .int .i64 0, .int .i64 0, .int .i64 0, .int .i64 0, .slice none 0 0, .int .i64 0, .int .i64 fn, .int .i64 mm.a, .int .i64 mm.b, .int .i64 mm.c, .int .i64 mm.d, .int .i64 mm.x, .int .i64 mm.y, .slice ba bs.length bc] := RIa.chg hC2 (fun hb => by have := HA.out _ (own_of hb); omega); have HU2 := Lib.hid (show Up w w2 from ((Chg.of_up (S := []) HUA.out).call hC2 (fun k hk => Or.inr (by have := HA.out _ (own_of hk); omega))).up); have RM2 : Row w2 m (cvC (.slice ao l.length cap)) := HR.out.up HU2.out; have rb := RM2.cell 2 rfl; have rf := RM2.free 2; have lm2 := RM2.lt; have HO2 := Lib.hid hown2; clear hown2 hgr2 hC2)
        refine hK.out _ _ ?_ (fun hHeld => ?_)
        · exact RI2
        clear hK K
        (try simp only [Act.put, lga, lgz, lgs, lsa, lsz, lss])
        refine wpAnyH_take (i := 11) (v := ?_) rfl (by kernel_rfl) (by kernel_rfl) (by kernel_rfl) (fun _ _ _ h => h) (Or.inl ⟨by rfl, ?_⟩) (by assumption) ?_
        rotate_left
        · intro w2 hSw
          (try dsimp only at hSw)
          (try (obtain ⟨hs1, hs2, hs3⟩ := hSw))
          go_simp
          (try (with_reducible rfl))
        (try simp only [Act.put, lga, lgz, lgs, lsa, lsz, lss])
        refine wpAnyH_take (i := 12) (v := ?_) rfl (by kernel_rfl) (by kernel_rfl) (by kernel_rfl) (fun _ _ _ h => h) (Or.inl ⟨by rfl, ?_⟩) (by assumption) ?_
        rotate_left
        · intro w2 hSw
          (try dsimp only at hSw)
          (try (obtain ⟨hs1, hs2, hs3⟩ := hSw))
          go_simp
          (try (with_reducible rfl))
        (try simp only [Act.put, lga, lgz, lgs, lsa, lsz, lss])
        refine wpAnyH_take (i := 13) (v := ?_) rfl (by kernel_rfl) (by kernel_rfl) (by kernel_rfl) (fun _ _ _ h => h) (Or.inl ⟨by rfl, ?_⟩) (by assumption) ?_
        rotate_left
        · intro w2 hSw
          (try dsimp only at hSw)
          (try (obtain ⟨hs1, hs2, hs3⟩ := hSw))
          go_simp
          (try (with_reducible rfl))
        (try simp only [Act.put, lga, lgz, lgs, lsa, lsz, lss])
        refine wpAnyH_ready (rs := [14]) (by decide +kernel) (by simp) ?_
        refine AllReadyH.cons rfl (fun K hK => ?_) (AllReadyH.nil)
        (try simp only [lga, lgz, lgs])
        (go_simp)
        refine hK.out _ _ ?_ (fun hHeld => ?_)
        · exact Row.chg RI2 ((Chg.refl [m] w2).setCell (Or.inl (by simp)) _) (by simp; omega)
        clear hK K
        (try simp only [Act.put, lga, lgz, lgs, lsa, lsz, lss])
        refine wpAnyH_done (by kernel_rfl) ?_ _
        go_wp2
        go_ret
        obtain ⟨hob, hfr⟩ := owned_base HO2.out
        have hgm : g2 ≠ m := fun e => by have := hfr g2 rfl; have := HLM.out; omega
        refine ⟨rfl, .slice (some ⟨g2, 0, none⟩) (l.length + 1) cap2, Row.put RM2 rfl, ?_, (Chg.of_up HU2.out).setCell (Or.inl (by simp)) _, fun g hg => by have := hfr g (own_of hg); omega⟩
        have e1 : (l ++ [(⟨⟨fn, mm, bs⟩, ca, cc, ba, bc⟩ : Cl)]).length = l.length + 1 := by simp
        show World.ownsRow _ _ _ _ _ (l ++ [_]).length _
        rw [e1, clCells_append]
        rw [List.nil_append, Nat.zero_add] at hob
        exact ownsRow_setCell_other hob (by simp [Value.ownBlock]; exact hgm) _
      · skip
        (try simp only [lga, lgz, lgs])
        (go_simp)
        refine hK.out _ _ ?_ (fun hHeld => ?_)
        · exact (show Row _ w.heap.size #[.int .i64 4, .slice none 0 0, .int .i64 1, .int .i64 0, .int .i64 0, .int .i64 0, .int .i64 0, .slice ca 0 cc, .int .i64 0, .int .i64 0, .int .i64 0, .int .i64 0, .slice none 0 0, .int .i64 0, .int .i64 fn, .int .i64 mm.a, .int .i64 mm.b, .int .i64 mm.c, .int .i64 mm.d, .int .i64 mm.x, .int .i64 mm.y, .slice ba bs.length bc] from (by exact ra))
        clear hK K
        (try simp only [Act.put, lga, lgz, lgs, lsa, lsz, lss])
        refine wpAnyH_ready (rs := [7]) (by decide +kernel) (by simp) ?_
        refine AllReadyH.cons rfl (fun K hK => ?_) (AllReadyH.nil)
        (try simp only [lga, lgz, lgs])
        (rw [if_pos (by rfl)]; refine wp_append_any rfl (.tmp 13) (.tmp 18) 43 rfl (w.heap.size + 1) 79 i0 (.agg #[.int .i64 0, .slice none 0 0, .int .i64 0, .int .i64 0, .int .i64 0, .int .i64 0, .int .i64 0, .slice none 0 0, .int .i64 0, .int .i64 0, .int .i64 0, .int .i64 0, .slice none 0 0, .int .i64 0, .int .i64 0, .int .i64 0, .int .i64 0, .int .i64 0, .int .i64 0, .int .i64 0, .int .i64 0, .slice none 0 0]) 22 240 Tryz.underlying43 hi hz0 hz1 hz2 rfl (by decide) (.slice (some ⟨w.heap.size + 1, 0, none⟩) 0 0) 0 [] rfl (made_any (by first | exact made_it (by first | (simp; done) | rfl) (by omega) | exact raw_upB (made_it (by first | (simp; done) | rfl) (by omega)) (Up.drew (Up.refl _)) | exact raw_upB (made_it (by first | (simp; done) | rfl) (by omega)) (Up.drew (Up.alloc (Up.refl _) _)) | exact raw_upB (made_it (by first | (simp; done) | rfl) (by omega)) (Up.alloc (Up.refl _) _))) ao l.length cap (clCells l) rfl (clCells_length l) HNN.out (fun ad e j u hj => (HNW.out ad e j u hj _ (by exact ua))) (clCells_one l) (by unfold maxLen; omega) (by omega) (by first | (simp; done) | (simp; omega) | omega) ?_; intro va wa hown hgr; have za := hgr.size; (try simp at za); have hCa : Chg [w.heap.size + 1] _ wa := Chg.grown (Chg.refl _ _) hgr (fun k hk => Or.inl (by simp only [Value.ownBlock, Option.some.injEq] at hk; simp [hk])); have HUA := Lib.hid (show Up w wa from ((show Chg [] w _ by (repeat' (first | (with_reducible first | exact Chg.refl _ _ | assumption | refine Chg.alloc ?_ _ | refine Chg.drew ?_ | refine Chg.drewN ?_ _ | refine Chg.setCell ?_ ?_ _ | refine Chg.upc ?_ (by assumption) | refine Chg.call ?_ (by assumption) ?_) | (refine Or.inl ?_; (simp; done)) | (simp; done) | (simp; omega) | omega))).call hCa (fun k hk => Or.inr (by simp at hk; omega))).up); have RIa : Row wa w.heap.size #[.int .i64 4, .slice none 0 0, .int .i64 1, .int .i64 0, .int .i64 0, .int .i64 0, .int .i64 0, .slice ca 0 cc, .int .i64 0, .int .i64 0, .int .i64 0, .int .i64 0, .slice none 0 0, .int .i64 0, .int .i64 fn, .int .i64 mm.a, .int .i64 mm.b, .int .i64 mm.c, .int .i64 mm.d, .int .i64 mm.x, .int .i64 mm.y, .slice ba bs.length bc] := Row.chg (show Row _ w.heap.size #[.int .i64 4, .slice none 0 0, .int .i64 1, .int .i64 0, .int .i64 0, .int .i64 0, .int .i64 0, .slice ca 0 cc, .int .i64 0, .int .i64 0, .int .i64 0, .int .i64 0, .slice none 0 0, .int .i64 0, .int .i64 fn, .int .i64 mm.a, .int .i64 mm.b, .int .i64 mm.c, .int .i64 mm.d, .int .i64 mm.x, .int .i64 mm.y, .slice ba bs.length bc] from (by exact ra)) hCa (by first | (simp; done) | (simp; omega)); have R9a : Row wa (w.heap.size + 1 + 1) #[.int .i64 4, .slice none 0 0, .int .i64 1, .int .i64 0, .int .i64 0, .int .i64 0, .int .i64 0, .slice ca 0 cc, .int .i64 0, .int .i64 0, .int .i64 0, .int .i64 0, .slice none 0 0, .int .i64 0, .int .i64 fn, .int .i64 mm.a, .int .i64 mm.b, .int .i64 mm.c, .int .i64 mm.d, .int .i64 mm.x, .int .i64 mm.y, .slice ba bs.length bc] := Row.chg (show Row _ (w.heap.size + 1 + 1) #[.int .i64 4, .slice none 0 0, .int .i64 1, .int .i64 0, .int .i64 0, .int .i64 0, .int .i64 0, .slice ca 0 cc, .int .i64 0, .int .i64 0, .int .i64 0, .int .i64 0, .slice none 0 0, .int .i64 0, .int .i64 fn, .int .i64 mm.a, .int .i64 mm.b, .int .i64 mm.c, .int .i64 mm.d, .int .i64 mm.x, .int .i64 mm.y, .slice ba bs.length bc] from (by exact ra)) hCa (by first | (simp; done) | (simp; omega)); have l9a := R9a.lt; have lIa := RIa.lt; have HO := Lib.hid hown; have HA := Lib.hid (owned_base hown).2; clear hown hCa hgr)
        refine hK.out _ _ ?_ (fun hHeld => ?_)
        · exact RIa
        clear hK K
        (try simp only [Act.put, lga, lgz, lgs, lsa, lsz, lss])
        refine wpAnyH_ready (rs := [10]) (by decide +kernel) (by simp) ?_
        refine AllReadyH.cons rfl (fun K hK => ?_) (AllReadyH.nil)
        (try simp only [lga, lgz, lgs])
        (rw [if_pos (by rfl)]; refine wp_append_lies _ (.tmp 19) (.tmp 21) 43 rfl (w.heap.size + 1) 79 i0 (.agg #[.int .i64 0, .slice none 0 0, .int .i64 0, .int .i64 0, .int .i64 0, .int .i64 0, .int .i64 0, .slice none 0 0, .int .i64 0, .int .i64 0, .int .i64 0, .int .i64 0, .slice none 0 0, .int .i64 0, .int .i64 0, .int .i64 0, .int .i64 0, .int .i64 0, .int .i64 0, .int .i64 0, .int .i64 0, .slice none 0 0]) 22 240 Tryz.underlying43 hi hz0 hz1 hz2 rfl (by decide) va (0 + l.length) ([] ++ clCells l) rfl (raw_upB HO.out (by exact ua)) ⟨w.heap.size + 1 + 1, 0, none⟩ 1 1 #[.int .i64 4, .slice none 0 0, .int .i64 1, .int .i64 0, .int .i64 0, .int .i64 0, .int .i64 0, .slice ca 0 cc, .int .i64 0, .int .i64 0, .int .i64 0, .int .i64 0, .slice none 0 0, .int .i64 0, .int .i64 fn, .int .i64 mm.a, .int .i64 mm.b, .int .i64 mm.c, .int .i64 mm.d, .int .i64 mm.x, .int .i64 mm.y, .slice ba bs.length bc].toList rfl rfl (news_at (by exact ra) rfl) (by simp [Value.oneCell']) (by decide) (by unfold maxLen; omega) (by omega) (by first | omega | (simp; omega)) _ rfl ?_; intro g2 cap2 w2 hown2 hgr2 hat hg2; have z2 := hgr2.size; (try simp at z2); have hC2 : Chg (own va) wa w2 := Chg.grown (Chg.of_up (by exact ua)) hgr2 (fun k hk => Or.inl (own_mem hk)); have RI2 : Row w2 w.heap.size #[.int .i64 4, .slice none 0 0, .int .i64 1, .int .i64 0, .int .i64 0, .int .i64 0, .int .i64 0, .slice ca 0 cc, .int .i64 0, .int .i64 0, .int .i64 0, .int .i64 0, .slice none 0 0, .int .i64 0, .int .i64 fn, .int .i64 mm.a, .int .i64 mm.b, .int .i64 mm.c, .int .i64 mm.d, .int .i64 mm.x, .int .i64 mm.y, .slice ba bs.length bc] := RIa.chg hC2 (fun hb => by have := HA.out _ (own_of hb); omega); have HU2 := Lib.hid (show Up w w2 from ((Chg.of_up (S := []) HUA.out).call hC2 (fun k hk => Or.inr (by have := HA.out _ (own_of hk); omega))).up); have RM2 : Row w2 m (cvC (.slice ao l.length cap)) := HR.out.up HU2.out; have rb := RM2.cell 2 rfl; have rf := RM2.free 2; have lm2 := RM2.lt; have HO2 := Lib.hid hown2; clear hown2 hgr2 hC2)
        refine hK.out _ _ ?_ (fun hHeld => ?_)
        · exact RI2
        clear hK K
        (try simp only [Act.put, lga, lgz, lgs, lsa, lsz, lss])
        refine wpAnyH_take (i := 11) (v := ?_) rfl (by kernel_rfl) (by kernel_rfl) (by kernel_rfl) (fun _ _ _ h => h) (Or.inl ⟨by rfl, ?_⟩) (by assumption) ?_
        rotate_left
        · intro w2 hSw
          (try dsimp only at hSw)
          (try (obtain ⟨hs1, hs2, hs3⟩ := hSw))
          go_simp
          (try (with_reducible rfl))
        (try simp only [Act.put, lga, lgz, lgs, lsa, lsz, lss])
        refine wpAnyH_take (i := 12) (v := ?_) rfl (by kernel_rfl) (by kernel_rfl) (by kernel_rfl) (fun _ _ _ h => h) (Or.inl ⟨by rfl, ?_⟩) (by assumption) ?_
        rotate_left
        · intro w2 hSw
          (try dsimp only at hSw)
          (try (obtain ⟨hs1, hs2, hs3⟩ := hSw))
          go_simp
          (try (with_reducible rfl))
        (try simp only [Act.put, lga, lgz, lgs, lsa, lsz, lss])
        refine wpAnyH_take (i := 13) (v := ?_) rfl (by kernel_rfl) (by kernel_rfl) (by kernel_rfl) (fun _ _ _ h => h) (Or.inl ⟨by rfl, ?_⟩) (by assumption) ?_
        rotate_left
        · intro w2 hSw
          (try dsimp only at hSw)
          (try (obtain ⟨hs1, hs2, hs3⟩ := hSw))
          go_simp
          (try (with_reducible rfl))
        (try simp only [Act.put, lga, lgz, lgs, lsa, lsz, lss])
        refine wpAnyH_ready (rs := [14]) (by decide +kernel) (by simp) ?_
        refine AllReadyH.cons rfl (fun K hK => ?_) (AllReadyH.nil)
        (try simp only [lga, lgz, lgs])
        (go_simp)
        refine hK.out _ _ ?_ (fun hHeld => ?_)
        · exact Row.chg RI2 ((Chg.refl [m] w2).setCell (Or.inl (by simp)) _) (by simp; omega)
        clear hK K
        (try simp only [Act.put, lga, lgz, lgs, lsa, lsz, lss])
        refine wpAnyH_done (by kernel_rfl) ?_ _
        go_wp2
        go_ret
        obtain ⟨hob, hfr⟩ := owned_base HO2.out
        have hgm : g2 ≠ m := fun e => by have := hfr g2 rfl; have := HLM.out; omega
        refine ⟨rfl, .slice (some ⟨g2, 0, none⟩) (l.length + 1) cap2, Row.put RM2 rfl, ?_, (Chg.of_up HU2.out).setCell (Or.inl (by simp)) _, fun g hg => by have := hfr g (own_of hg); omega⟩
        have e1 : (l ++ [(⟨⟨fn, mm, bs⟩, ca, cc, ba, bc⟩ : Cl)]).length = l.length + 1 := by simp
        show World.ownsRow _ _ _ _ _ (l ++ [_]).length _
        rw [e1, clCells_append]
        rw [List.nil_append, Nat.zero_add] at hob
        exact ownsRow_setCell_other hob (by simp [Value.ownBlock]; exact hgm) _
    · skip
      (try simp only [lga, lgz, lgs])
      (go_simp)
      refine hK.out _ _ ?_ (fun hHeld => ?_)
      · exact (show Row _ w.heap.size #[.int .i64 4, .slice none 0 0, .int .i64 1, .int .i64 0, .int .i64 0, .int .i64 0, .int .i64 0, .slice ca 0 cc, .int .i64 0, .int .i64 0, .int .i64 0, .int .i64 0, .slice none 0 0, .int .i64 0, .int .i64 fn, .int .i64 mm.a, .int .i64 mm.b, .int .i64 mm.c, .int .i64 mm.d, .int .i64 mm.x, .int .i64 mm.y, .slice ba bs.length bc] from (by exact ra))
      clear hK K
      (try simp only [Act.put, lga, lgz, lgs, lsa, lsz, lss])
      refine wpAnyH_ready (rs := [6]) (by decide +kernel) (by simp) ?_
      refine AllReadyH.cons rfl (fun K hK => ?_) (AllReadyH.nil)
      (try simp only [lga, lgz, lgs])
      (go_simp)
      refine hK.out _ _ ?_ (fun hHeld => ?_)
      · exact hHeld
      clear hK K
      (try simp only [Act.put, lga, lgz, lgs, lsa, lsz, lss])
      refine wpAnyH_ready (rs := [7]) (by decide +kernel) (by simp) ?_
      refine AllReadyH.cons rfl (fun K hK => ?_) (AllReadyH.nil)
      (try simp only [lga, lgz, lgs])
      (rw [if_pos (by rfl)]; refine wp_append_any rfl (.tmp 13) (.tmp 18) 43 rfl (w.heap.size + 1) 79 i0 (.agg #[.int .i64 0, .slice none 0 0, .int .i64 0, .int .i64 0, .int .i64 0, .int .i64 0, .int .i64 0, .slice none 0 0, .int .i64 0, .int .i64 0, .int .i64 0, .int .i64 0, .slice none 0 0, .int .i64 0, .int .i64 0, .int .i64 0, .int .i64 0, .int .i64 0, .int .i64 0, .int .i64 0, .int .i64 0, .slice none 0 0]) 22 240 Tryz.underlying43 hi hz0 hz1 hz2 rfl (by decide) (.slice (some ⟨w.heap.size + 1, 0, none⟩) 0 0) 0 [] rfl (made_any (by first | exact made_it (by first | (simp; done) | rfl) (by omega) | exact raw_upB (made_it (by first | (simp; done) | rfl) (by omega)) (Up.drew (Up.refl _)) | exact raw_upB (made_it (by first | (simp; done) | rfl) (by omega)) (Up.drew (Up.alloc (Up.refl _) _)) | exact raw_upB (made_it (by first | (simp; done) | rfl) (by omega)) (Up.alloc (Up.refl _) _))) ao l.length cap (clCells l) rfl (clCells_length l) HNN.out (fun ad e j u hj => (HNW.out ad e j u hj _ (by exact ua))) (clCells_one l) (by unfold maxLen; omega) (by omega) (by first | (simp; done) | (simp; omega) | omega) ?_; intro va wa hown hgr; have za := hgr.size; (try simp at za); have hCa : Chg [w.heap.size + 1] _ wa := Chg.grown (Chg.refl _ _) hgr (fun k hk => Or.inl (by simp only [Value.ownBlock, Option.some.injEq] at hk; simp [hk])); have HUA := Lib.hid (show Up w wa from ((show Chg [] w _ by (repeat' (first | (with_reducible first | exact Chg.refl _ _ | assumption | refine Chg.alloc ?_ _ | refine Chg.drew ?_ | refine Chg.drewN ?_ _ | refine Chg.setCell ?_ ?_ _ | refine Chg.upc ?_ (by assumption) | refine Chg.call ?_ (by assumption) ?_) | (refine Or.inl ?_; (simp; done)) | (simp; done) | (simp; omega) | omega))).call hCa (fun k hk => Or.inr (by simp at hk; omega))).up); have RIa : Row wa w.heap.size #[.int .i64 4, .slice none 0 0, .int .i64 1, .int .i64 0, .int .i64 0, .int .i64 0, .int .i64 0, .slice ca 0 cc, .int .i64 0, .int .i64 0, .int .i64 0, .int .i64 0, .slice none 0 0, .int .i64 0, .int .i64 fn, .int .i64 mm.a, .int .i64 mm.b, .int .i64 mm.c, .int .i64 mm.d, .int .i64 mm.x, .int .i64 mm.y, .slice ba bs.length bc] := Row.chg (show Row _ w.heap.size #[.int .i64 4, .slice none 0 0, .int .i64 1, .int .i64 0, .int .i64 0, .int .i64 0, .int .i64 0, .slice ca 0 cc, .int .i64 0, .int .i64 0, .int .i64 0, .int .i64 0, .slice none 0 0, .int .i64 0, .int .i64 fn, .int .i64 mm.a, .int .i64 mm.b, .int .i64 mm.c, .int .i64 mm.d, .int .i64 mm.x, .int .i64 mm.y, .slice ba bs.length bc] from (by exact ra)) hCa (by first | (simp; done) | (simp; omega)); have R9a : Row wa (w.heap.size + 1 + 1) #[.int .i64 4, .slice none 0 0, .int .i64 1, .int .i64 0, .int .i64 0, .int .i64 0, .int .i64 0, .slice ca 0 cc, .int .i64 0, .int .i64 0, .int .i64 0, .int .i64 0, .slice none 0 0, .int .i64 0, .int .i64 fn, .int .i64 mm.a, .int .i64 mm.b, .int .i64 mm.c, .int .i64 mm.d, .int .i64 mm.x, .int .i64 mm.y, .slice ba bs.length bc] := Row.chg (show Row _ (w.heap.size + 1 + 1) #[.int .i64 4, .slice none 0 0, .int .i64 1, .int .i64 0, .int .i64 0, .int .i64 0, .int .i64 0, .slice ca 0 cc, .int .i64 0, .int .i64 0, .int .i64 0, .int .i64 0, .slice none 0 0, .int .i64 0, .int .i64 fn, .int .i64 mm.a, .int .i64 mm.b, .int .i64 mm.c, .int .i64 mm.d, .int .i64 mm.x, .int .i64 mm.y, .slice ba bs.length bc] from (by exact ra)) hCa (by first | (simp; done) | (simp; omega)); have l9a := R9a.lt; have lIa := RIa.lt; have HO := Lib.hid hown; have HA := Lib.hid (owned_base hown).2; clear hown hCa hgr)
      refine hK.out _ _ ?_ (fun hHeld => ?_)
      · exact RIa
      clear hK K
      (try simp only [Act.put, lga, lgz, lgs, lsa, lsz, lss])
      refine wpAnyH_ready (rs := [10]) (by decide +kernel) (by simp) ?_
      refine AllReadyH.cons rfl (fun K hK => ?_) (AllReadyH.nil)
      (try simp only [lga, lgz, lgs])
      (rw [if_pos (by rfl)]; refine wp_append_lies _ (.tmp 19) (.tmp 21) 43 rfl (w.heap.size + 1) 79 i0 (.agg #[.int .i64 0, .slice none 0 0, .int .i64 0, .int .i64 0, .int .i64 0, .int .i64 0, .int .i64 0, .slice none 0 0, .int .i64 0, .int .i64 0, .int .i64 0, .int .i64 0, .slice none 0 0, .int .i64 0, .int .i64 0, .int .i64 0, .int .i64 0, .int .i64 0, .int .i64 0, .int .i64 0, .int .i64 0, .slice none 0 0]) 22 240 Tryz.underlying43 hi hz0 hz1 hz2 rfl (by decide) va (0 + l.length) ([] ++ clCells l) rfl (raw_upB HO.out (by exact ua)) ⟨w.heap.size + 1 + 1, 0, none⟩ 1 1 #[.int .i64 4, .slice none 0 0, .int .i64 1, .int .i64 0, .int .i64 0, .int .i64 0, .int .i64 0, .slice ca 0 cc, .int .i64 0, .int .i64 0, .int .i64 0, .int .i64 0, .slice none 0 0, .int .i64 0, .int .i64 fn, .int .i64 mm.a, .int .i64 mm.b, .int .i64 mm.c, .int .i64 mm.d, .int .i64 mm.x, .int .i64 mm.y, .slice ba bs.length bc].toList rfl rfl (news_at (by exact ra) rfl) (by simp [Value.oneCell']) (by decide) (by unfold maxLen; omega) (by omega) (by first | omega | (simp; omega)) _ rfl ?_; intro g2 cap2 w2 hown2 hgr2 hat hg2; have z2 := hgr2.size; (try simp at z2); have hC2 : Chg (own va) wa w2 := Chg.grown (Chg.of_up (by exact ua)) hgr2 (fun k hk => Or.inl (own_mem hk)); have RI2 : Row w2 w.heap.size #[.int .i64 4, .slice none 0 0, .int .i64 1, .int .i64 0, .int .i64 0, .int .i64 0, .int .i64 0, .slice ca 0 cc, .int .i64 0, .int .i64 0, .int .i64 0, .int .i64 0, .slice none 0 0, .int .i64 0, .int .i64 fn, .int .i64 mm.a, .int .i64 mm.b, .int .i64 mm.c, .int .i64 mm.d, .int .i64 mm.x, .int .i64 mm.y, .slice ba bs.length bc] := RIa.chg hC2 (fun hb => by have := HA.out _ (own_of hb); omega); have HU2 := Lib.hid (show Up w w2 from ((Chg.of_up (S := []) HUA.out).call hC2 (fun k hk => Or.inr (by have := HA.out _ (own_of hk); omega))).up); have RM2 : Row w2 m (cvC (.slice ao l.length cap)) := HR.out.up HU2.out; have rb := RM2.cell 2 rfl; have rf := RM2.free 2; have lm2 := RM2.lt; have HO2 := Lib.hid hown2; clear hown2 hgr2 hC2)
      refine hK.out _ _ ?_ (fun hHeld => ?_)
      · exact RI2
      clear hK K
      (try simp only [Act.put, lga, lgz, lgs, lsa, lsz, lss])
      refine wpAnyH_take (i := 11) (v := ?_) rfl (by kernel_rfl) (by kernel_rfl) (by kernel_rfl) (fun _ _ _ h => h) (Or.inl ⟨by rfl, ?_⟩) (by assumption) ?_
      rotate_left
      · intro w2 hSw
        (try dsimp only at hSw)
        (try (obtain ⟨hs1, hs2, hs3⟩ := hSw))
        go_simp
        (try (with_reducible rfl))
      (try simp only [Act.put, lga, lgz, lgs, lsa, lsz, lss])
      refine wpAnyH_take (i := 12) (v := ?_) rfl (by kernel_rfl) (by kernel_rfl) (by kernel_rfl) (fun _ _ _ h => h) (Or.inl ⟨by rfl, ?_⟩) (by assumption) ?_
      rotate_left
      · intro w2 hSw
        (try dsimp only at hSw)
        (try (obtain ⟨hs1, hs2, hs3⟩ := hSw))
        go_simp
        (try (with_reducible rfl))
      (try simp only [Act.put, lga, lgz, lgs, lsa, lsz, lss])
      refine wpAnyH_take (i := 13) (v := ?_) rfl (by kernel_rfl) (by kernel_rfl) (by kernel_rfl) (fun _ _ _ h => h) (Or.inl ⟨by rfl, ?_⟩) (by assumption) ?_
      rotate_left
      · intro w2 hSw
        (try dsimp only at hSw)
        (try (obtain ⟨hs1, hs2, hs3⟩ := hSw))
        go_simp
        (try (with_reducible rfl))
      (try simp only [Act.put, lga, lgz, lgs, lsa, lsz, lss])
      refine wpAnyH_ready (rs := [14]) (by decide +kernel) (by simp) ?_
      refine AllReadyH.cons rfl (fun K hK => ?_) (AllReadyH.nil)
      (try simp only [lga, lgz, lgs])
      (go_simp)
      refine hK.out _ _ ?_ (fun hHeld => ?_)
      · exact Row.chg RI2 ((Chg.refl [m] w2).setCell (Or.inl (by simp)) _) (by simp; omega)
      clear hK K
      (try simp only [Act.put, lga, lgz, lgs, lsa, lsz, lss])
      refine wpAnyH_done (by kernel_rfl) ?_ _
      go_wp2
      go_ret
      obtain ⟨hob, hfr⟩ := owned_base HO2.out
      have hgm : g2 ≠ m := fun e => by have := hfr g2 rfl; have := HLM.out; omega
      refine ⟨rfl, .slice (some ⟨g2, 0, none⟩) (l.length + 1) cap2, Row.put RM2 rfl, ?_, (Chg.of_up HU2.out).setCell (Or.inl (by simp)) _, fun g hg => by have := hfr g (own_of hg); omega⟩
      have e1 : (l ++ [(⟨⟨fn, mm, bs⟩, ca, cc, ba, bc⟩ : Cl)]).length = l.length + 1 := by simp
      show World.ownsRow _ _ _ _ _ (l ++ [_]).length _
      rw [e1, clCells_append]
      rw [List.nil_append, Nat.zero_add] at hob
      exact ownsRow_setCell_other hob (by simp [Value.ownBlock]; exact hgm) _
  · skip
    (try simp only [lga, lgz, lgs])
    (go_simp)
    refine hK.out _ _ ?_ (fun hHeld => ?_)
    · exact hHeld
    clear hK K
    (try simp only [Act.put, lga, lgz, lgs, lsa, lsz, lss])
    refine wpAnyH_ready (rs := [1, 9]) (by decide +kernel) (by simp) ?_
    refine AllReadyH.cons rfl (fun K hK => ?_) (AllReadyH.cons rfl (fun K hK => ?_) (AllReadyH.nil))
    · skip
      (try simp only [lga, lgz, lgs])
      (go_simp)
      refine hK.out _ _ ?_ (fun hHeld => ?_)
      · exact (show Row _ w.heap.size #[.int .i64 4, .slice none 0 0, .int .i64 1, .int .i64 0, .int .i64 0, .int .i64 0, .int .i64 0, .slice ca 0 cc, .int .i64 0, .int .i64 0, .int .i64 0, .int .i64 0, .slice none 0 0, .int .i64 0, .int .i64 fn, .int .i64 mm.a, .int .i64 mm.b, .int .i64 mm.c, .int .i64 mm.d, .int .i64 mm.x, .int .i64 mm.y, .slice ba bs.length bc] from (by exact ra))
      clear hK K
      (try simp only [Act.put, lga, lgz, lgs, lsa, lsz, lss])
      refine wpAnyH_ready (rs := [7, 9]) (by decide +kernel) (by simp) ?_
      refine AllReadyH.cons rfl (fun K hK => ?_) (AllReadyH.cons rfl (fun K hK => ?_) (AllReadyH.nil))
      · skip
        (try simp only [lga, lgz, lgs])
        (rw [if_pos (by rfl)]; refine wp_append_any rfl (.tmp 13) (.tmp 18) 43 rfl (w.heap.size + 1) 79 i0 (.agg #[.int .i64 0, .slice none 0 0, .int .i64 0, .int .i64 0, .int .i64 0, .int .i64 0, .int .i64 0, .slice none 0 0, .int .i64 0, .int .i64 0, .int .i64 0, .int .i64 0, .slice none 0 0, .int .i64 0, .int .i64 0, .int .i64 0, .int .i64 0, .int .i64 0, .int .i64 0, .int .i64 0, .int .i64 0, .slice none 0 0]) 22 240 Tryz.underlying43 hi hz0 hz1 hz2 rfl (by decide) (.slice (some ⟨w.heap.size + 1, 0, none⟩) 0 0) 0 [] rfl (made_any (by first | exact made_it (by first | (simp; done) | rfl) (by omega) | exact raw_upB (made_it (by first | (simp; done) | rfl) (by omega)) (Up.drew (Up.refl _)) | exact raw_upB (made_it (by first | (simp; done) | rfl) (by omega)) (Up.drew (Up.alloc (Up.refl _) _)) | exact raw_upB (made_it (by first | (simp; done) | rfl) (by omega)) (Up.alloc (Up.refl _) _))) ao l.length cap (clCells l) rfl (clCells_length l) HNN.out (fun ad e j u hj => (HNW.out ad e j u hj _ (by exact ua))) (clCells_one l) (by unfold maxLen; omega) (by omega) (by first | (simp; done) | (simp; omega) | omega) ?_; intro va wa hown hgr; have za := hgr.size; (try simp at za); have hCa : Chg [w.heap.size + 1] _ wa := Chg.grown (Chg.refl _ _) hgr (fun k hk => Or.inl (by simp only [Value.ownBlock, Option.some.injEq] at hk; simp [hk])); have HUA := Lib.hid (show Up w wa from ((show Chg [] w _ by (repeat' (first | (with_reducible first | exact Chg.refl _ _ | assumption | refine Chg.alloc ?_ _ | refine Chg.drew ?_ | refine Chg.drewN ?_ _ | refine Chg.setCell ?_ ?_ _ | refine Chg.upc ?_ (by assumption) | refine Chg.call ?_ (by assumption) ?_) | (refine Or.inl ?_; (simp; done)) | (simp; done) | (simp; omega) | omega))).call hCa (fun k hk => Or.inr (by simp at hk; omega))).up); have RIa : Row wa w.heap.size #[.int .i64 4, .slice none 0 0, .int .i64 1, .int .i64 0, .int .i64 0, .int .i64 0, .int .i64 0, .slice ca 0 cc, .int .i64 0, .int .i64 0, .int .i64 0, .int .i64 0, .slice none 0 0, .int .i64 0, .int .i64 fn, .int .i64 mm.a, .int .i64 mm.b, .int .i64 mm.c, .int .i64 mm.d, .int .i64 mm.x, .int .i64 mm.y, .slice ba bs.length bc] := Row.chg (show Row _ w.heap.size #[.int .i64 4, .slice none 0 0, .int .i64 1, .int .i64 0, .int .i64 0, .int .i64 0, .int .i64 0, .slice ca 0 cc, .int .i64 0, .int .i64 0, .int .i64 0, .int .i64 0, .slice none 0 0, .int .i64 0, .int .i64 fn, .int .i64 mm.a, .int .i64 mm.b, .int .i64 mm.c, .int .i64 mm.d, .int .i64 mm.x, .int .i64 mm.y, .slice ba bs.length bc] from (by exact ra)) hCa (by first | (simp; done) | (simp; omega)); have lIa := RIa.lt; have HO := Lib.hid hown; have HA := Lib.hid (owned_base hown).2; clear hown hCa hgr)
        refine hK.out _ _ ?_ (fun hHeld => ?_)
        · exact RIa
        clear hK K
        (try simp only [Act.put, lga, lgz, lgs, lsa, lsz, lss])
        refine wpAnyH_ready (rs := [9]) (by decide +kernel) (by simp) ?_
        refine AllReadyH.cons rfl (fun K hK => ?_) (AllReadyH.nil)
        (try simp only [lga, lgz, lgs])
        (go_simp)
        refine hK.out _ _ ?_ (fun hHeld => ?_)
        · exact (show Row _ w.heap.size #[.int .i64 4, .slice none 0 0, .int .i64 1, .int .i64 0, .int .i64 0, .int .i64 0, .int .i64 0, .slice ca 0 cc, .int .i64 0, .int .i64 0, .int .i64 0, .int .i64 0, .slice none 0 0, .int .i64 0, .int .i64 fn, .int .i64 mm.a, .int .i64 mm.b, .int .i64 mm.c, .int .i64 mm.d, .int .i64 mm.x, .int .i64 mm.y, .slice ba bs.length bc] from (by exact ra))
        clear hK K
        (try simp only [Act.put, lga, lgz, lgs, lsa, lsz, lss])
        refine wpAnyH_ready (rs := [10]) (by decide +kernel) (by simp) ?_
        refine AllReadyH.cons rfl (fun K hK => ?_) (AllReadyH.nil)
        (try simp only [lga, lgz, lgs])
        (rw [if_pos (by rfl)]; refine wp_append_lies _ (.tmp 19) (.tmp 21) 43 rfl (w.heap.size + 1) 79 i0 (.agg #[.int .i64 0, .slice none 0 0, .int .i64 0, .int .i64 0, .int .i64 0, .int .i64 0, .int .i64 0, .slice none 0 0, .int .i64 0, .int .i64 0, .int .i64 0, .int .i64 0, .slice none 0 0, .int .i64 0, .int .i64 0, .int .i64 0, .int .i64 0, .int .i64 0, .int .i64 0, .int .i64 0, .int .i64 0, .slice none 0 0]) 22 240 Tryz.underlying43 hi hz0 hz1 hz2 rfl (by decide) va (0 + l.length) ([] ++ clCells l) rfl (raw_upB HO.out (by exact ua)) ⟨wa.heap.size, 0, none⟩ 1 1 #[.int .i64 4, .slice none 0 0, .int .i64 1, .int .i64 0, .int .i64 0, .int .i64 0, .int .i64 0, .slice ca 0 cc, .int .i64 0, .int .i64 0, .int .i64 0, .int .i64 0, .slice none 0 0, .int .i64 0, .int .i64 fn, .int .i64 mm.a, .int .i64 mm.b, .int .i64 mm.c, .int .i64 mm.d, .int .i64 mm.x, .int .i64 mm.y, .slice ba bs.length bc].toList rfl rfl (news_at (by exact ra) rfl) (by simp [Value.oneCell']) (by decide) (by unfold maxLen; omega) (by omega) (by first | omega | (simp; omega)) _ rfl ?_; intro g2 cap2 w2 hown2 hgr2 hat hg2; have z2 := hgr2.size; (try simp at z2); have hC2 : Chg (own va) wa w2 := Chg.grown (Chg.of_up (by exact ua)) hgr2 (fun k hk => Or.inl (own_mem hk)); have RI2 : Row w2 w.heap.size #[.int .i64 4, .slice none 0 0, .int .i64 1, .int .i64 0, .int .i64 0, .int .i64 0, .int .i64 0, .slice ca 0 cc, .int .i64 0, .int .i64 0, .int .i64 0, .int .i64 0, .slice none 0 0, .int .i64 0, .int .i64 fn, .int .i64 mm.a, .int .i64 mm.b, .int .i64 mm.c, .int .i64 mm.d, .int .i64 mm.x, .int .i64 mm.y, .slice ba bs.length bc] := RIa.chg hC2 (fun hb => by have := HA.out _ (own_of hb); omega); have HU2 := Lib.hid (show Up w w2 from ((Chg.of_up (S := []) HUA.out).call hC2 (fun k hk => Or.inr (by have := HA.out _ (own_of hk); omega))).up); have RM2 : Row w2 m (cvC (.slice ao l.length cap)) := HR.out.up HU2.out; have rb := RM2.cell 2 rfl; have rf := RM2.free 2; have lm2 := RM2.lt; have HO2 := Lib.hid hown2; clear hown2 hgr2 hC2)
        refine hK.out _ _ ?_ (fun hHeld => ?_)
        · exact RI2
        clear hK K
        (try simp only [Act.put, lga, lgz, lgs, lsa, lsz, lss])
        refine wpAnyH_take (i := 11) (v := ?_) rfl (by kernel_rfl) (by kernel_rfl) (by kernel_rfl) (fun _ _ _ h => h) (Or.inl ⟨by rfl, ?_⟩) (by assumption) ?_
        rotate_left
        · intro w2 hSw
          (try dsimp only at hSw)
          (try (obtain ⟨hs1, hs2, hs3⟩ := hSw))
          go_simp
          (try (with_reducible rfl))
        (try simp only [Act.put, lga, lgz, lgs, lsa, lsz, lss])
        refine wpAnyH_take (i := 12) (v := ?_) rfl (by kernel_rfl) (by kernel_rfl) (by kernel_rfl) (fun _ _ _ h => h) (Or.inl ⟨by rfl, ?_⟩) (by assumption) ?_
        rotate_left
        · intro w2 hSw
          (try dsimp only at hSw)
          (try (obtain ⟨hs1, hs2, hs3⟩ := hSw))
          go_simp
          (try (with_reducible rfl))
        (try simp only [Act.put, lga, lgz, lgs, lsa, lsz, lss])
        refine wpAnyH_take (i := 13) (v := ?_) rfl (by kernel_rfl) (by kernel_rfl) (by kernel_rfl) (fun _ _ _ h => h) (Or.inl ⟨by rfl, ?_⟩) (by assumption) ?_
        rotate_left
        · intro w2 hSw
          (try dsimp only at hSw)
          (try (obtain ⟨hs1, hs2, hs3⟩ := hSw))
          go_simp
          (try (with_reducible rfl))
        (try simp only [Act.put, lga, lgz, lgs, lsa, lsz, lss])
        refine wpAnyH_ready (rs := [14]) (by decide +kernel) (by simp) ?_
        refine AllReadyH.cons rfl (fun K hK => ?_) (AllReadyH.nil)
        (try simp only [lga, lgz, lgs])
        (go_simp)
        refine hK.out _ _ ?_ (fun hHeld => ?_)
        · exact Row.chg RI2 ((Chg.refl [m] w2).setCell (Or.inl (by simp)) _) (by simp; omega)
        clear hK K
        (try simp only [Act.put, lga, lgz, lgs, lsa, lsz, lss])
        refine wpAnyH_done (by kernel_rfl) ?_ _
        go_wp2
        go_ret
        obtain ⟨hob, hfr⟩ := owned_base HO2.out
        have hgm : g2 ≠ m := fun e => by have := hfr g2 rfl; have := HLM.out; omega
        refine ⟨rfl, .slice (some ⟨g2, 0, none⟩) (l.length + 1) cap2, Row.put RM2 rfl, ?_, (Chg.of_up HU2.out).setCell (Or.inl (by simp)) _, fun g hg => by have := hfr g (own_of hg); omega⟩
        have e1 : (l ++ [(⟨⟨fn, mm, bs⟩, ca, cc, ba, bc⟩ : Cl)]).length = l.length + 1 := by simp
        show World.ownsRow _ _ _ _ _ (l ++ [_]).length _
        rw [e1, clCells_append]
        rw [List.nil_append, Nat.zero_add] at hob
        exact ownsRow_setCell_other hob (by simp [Value.ownBlock]; exact hgm) _
      · skip
        (try simp only [lga, lgz, lgs])
        (go_simp)
        refine hK.out _ _ ?_ (fun hHeld => ?_)
        · exact (show Row _ w.heap.size #[.int .i64 4, .slice none 0 0, .int .i64 1, .int .i64 0, .int .i64 0, .int .i64 0, .int .i64 0, .slice ca 0 cc, .int .i64 0, .int .i64 0, .int .i64 0, .int .i64 0, .slice none 0 0, .int .i64 0, .int .i64 fn, .int .i64 mm.a, .int .i64 mm.b, .int .i64 mm.c, .int .i64 mm.d, .int .i64 mm.x, .int .i64 mm.y, .slice ba bs.length bc] from (by exact ra))
        clear hK K
        (try simp only [Act.put, lga, lgz, lgs, lsa, lsz, lss])
        refine wpAnyH_ready (rs := [7]) (by decide +kernel) (by simp) ?_
        refine AllReadyH.cons rfl (fun K hK => ?_) (AllReadyH.nil)
        (try simp only [lga, lgz, lgs])
        (rw [if_pos (by rfl)]; refine wp_append_any rfl (.tmp 13) (.tmp 18) 43 rfl (w.heap.size + 1) 79 i0 (.agg #[.int .i64 0, .slice none 0 0, .int .i64 0, .int .i64 0, .int .i64 0, .int .i64 0, .int .i64 0, .slice none 0 0, .int .i64 0, .int .i64 0, .int .i64 0, .int .i64 0, .slice none 0 0, .int .i64 0, .int .i64 0, .int .i64 0, .int .i64 0, .int .i64 0, .int .i64 0, .int .i64 0, .int .i64 0, .slice none 0 0]) 22 240 Tryz.underlying43 hi hz0 hz1 hz2 rfl (by decide) (.slice (some ⟨w.heap.size + 1, 0, none⟩) 0 0) 0 [] rfl (made_any (by first | exact made_it (by first | (simp; done) | rfl) (by omega) | exact raw_upB (made_it (by first | (simp; done) | rfl) (by omega)) (Up.drew (Up.refl _)) | exact raw_upB (made_it (by first | (simp; done) | rfl) (by omega)) (Up.drew (Up.alloc (Up.refl _) _)) | exact raw_upB (made_it (by first | (simp; done) | rfl) (by omega)) (Up.alloc (Up.refl _) _))) ao l.length cap (clCells l) rfl (clCells_length l) HNN.out (fun ad e j u hj => (HNW.out ad e j u hj _ (by exact ua))) (clCells_one l) (by unfold maxLen; omega) (by omega) (by first | (simp; done) | (simp; omega) | omega) ?_; intro va wa hown hgr; have za := hgr.size; (try simp at za); have hCa : Chg [w.heap.size + 1] _ wa := Chg.grown (Chg.refl _ _) hgr (fun k hk => Or.inl (by simp only [Value.ownBlock, Option.some.injEq] at hk; simp [hk])); have HUA := Lib.hid (show Up w wa from ((show Chg [] w _ by (repeat' (first | (with_reducible first | exact Chg.refl _ _ | assumption | refine Chg.alloc ?_ _ | refine Chg.drew ?_ | refine Chg.drewN ?_ _ | refine Chg.setCell ?_ ?_ _ | refine Chg.upc ?_ (by assumption) | refine Chg.call ?_ (by assumption) ?_) | (refine Or.inl ?_; (simp; done)) | (simp; done) | (simp; omega) | omega))).call hCa (fun k hk => Or.inr (by simp at hk; omega))).up); have RIa : Row wa w.heap.size #[.int .i64 4, .slice none 0 0, .int .i64 1, .int .i64 0, .int .i64 0, .int .i64 0, .int .i64 0, .slice ca 0 cc, .int .i64 0, .int .i64 0, .int .i64 0, .int .i64 0, .slice none 0 0, .int .i64 0, .int .i64 fn, .int .i64 mm.a, .int .i64 mm.b, .int .i64 mm.c, .int .i64 mm.d, .int .i64 mm.x, .int .i64 mm.y, .slice ba bs.length bc] := Row.chg (show Row _ w.heap.size #[.int .i64 4, .slice none 0 0, .int .i64 1, .int .i64 0, .int .i64 0, .int .i64 0, .int .i64 0, .slice ca 0 cc, .int .i64 0, .int .i64 0, .int .i64 0, .int .i64 0, .slice none 0 0, .int .i64 0, .int .i64 fn, .int .i64 mm.a, .int .i64 mm.b, .int .i64 mm.c, .int .i64 mm.d, .int .i64 mm.x, .int .i64 mm.y, .slice ba bs.length bc] from (by exact ra)) hCa (by first | (simp; done) | (simp; omega)); have R9a : Row wa (w.heap.size + 1 + 1) #[.int .i64 4, .slice none 0 0, .int .i64 1, .int .i64 0, .int .i64 0, .int .i64 0, .int .i64 0, .slice ca 0 cc, .int .i64 0, .int .i64 0, .int .i64 0, .int .i64 0, .slice none 0 0, .int .i64 0, .int .i64 fn, .int .i64 mm.a, .int .i64 mm.b, .int .i64 mm.c, .int .i64 mm.d, .int .i64 mm.x, .int .i64 mm.y, .slice ba bs.length bc] := Row.chg (show Row _ (w.heap.size + 1 + 1) #[.int .i64 4, .slice none 0 0, .int .i64 1, .int .i64 0, .int .i64 0, .int .i64 0, .int .i64 0, .slice ca 0 cc, .int .i64 0, .int .i64 0, .int .i64 0, .int .i64 0, .slice none 0 0, .int .i64 0, .int .i64 fn, .int .i64 mm.a, .int .i64 mm.b, .int .i64 mm.c, .int .i64 mm.d, .int .i64 mm.x, .int .i64 mm.y, .slice ba bs.length bc] from (by exact ra)) hCa (by first | (simp; done) | (simp; omega)); have l9a := R9a.lt; have lIa := RIa.lt; have HO := Lib.hid hown; have HA := Lib.hid (owned_base hown).2; clear hown hCa hgr)
        refine hK.out _ _ ?_ (fun hHeld => ?_)
        · exact RIa
        clear hK K
        (try simp only [Act.put, lga, lgz, lgs, lsa, lsz, lss])
        refine wpAnyH_ready (rs := [10]) (by decide +kernel) (by simp) ?_
        refine AllReadyH.cons rfl (fun K hK => ?_) (AllReadyH.nil)
        (try simp only [lga, lgz, lgs])
        (rw [if_pos (by rfl)]; refine wp_append_lies _ (.tmp 19) (.tmp 21) 43 rfl (w.heap.size + 1) 79 i0 (.agg #[.int .i64 0, .slice none 0 0, .int .i64 0, .int .i64 0, .int .i64 0, .int .i64 0, .int .i64 0, .slice none 0 0, .int .i64 0, .int .i64 0, .int .i64 0, .int .i64 0, .slice none 0 0, .int .i64 0, .int .i64 0, .int .i64 0, .int .i64 0, .int .i64 0, .int .i64 0, .int .i64 0, .int .i64 0, .slice none 0 0]) 22 240 Tryz.underlying43 hi hz0 hz1 hz2 rfl (by decide) va (0 + l.length) ([] ++ clCells l) rfl (raw_upB HO.out (by exact ua)) ⟨w.heap.size + 1 + 1, 0, none⟩ 1 1 #[.int .i64 4, .slice none 0 0, .int .i64 1, .int .i64 0, .int .i64 0, .int .i64 0, .int .i64 0, .slice ca 0 cc, .int .i64 0, .int .i64 0, .int .i64 0, .int .i64 0, .slice none 0 0, .int .i64 0, .int .i64 fn, .int .i64 mm.a, .int .i64 mm.b, .int .i64 mm.c, .int .i64 mm.d, .int .i64 mm.x, .int .i64 mm.y, .slice ba bs.length bc].toList rfl rfl (news_at (by exact ra) rfl) (by simp [Value.oneCell']) (by decide) (by unfold maxLen; omega) (by omega) (by first | omega | (simp; omega)) _ rfl ?_; intro g2 cap2 w2 hown2 hgr2 hat hg2; have z2 := hgr2.size; (try simp at z2); have hC2 : Chg (own va) wa w2 := Chg.grown (Chg.of_up (by exact ua)) hgr2 (fun k hk => Or.inl (own_mem hk)); have RI2 : Row w2 w.heap.size #[.int .i64 4, .slice none 0 0, .int .i64 1, .int .i64 0, .int .i64 0, .int .i64 0, .int .i64 0, .slice ca 0 cc, .int .i64 0, .int .i64 0, .int .i64 0, .int .i64 0, .slice none 0 0, .int .i64 0, .int .i64 fn, .int .i64 mm.a, .int .i64 mm.b, .int .i64 mm.c, .int .i64 mm.d, .int .i64 mm.x, .int .i64 mm.y, .slice ba bs.length bc] := RIa.chg hC2 (fun hb => by have := HA.out _ (own_of hb); omega); have HU2 := Lib.hid (show Up w w2 from ((Chg.of_up (S := []) HUA.out).call hC2 (fun k hk => Or.inr (by have := HA.out _ (own_of hk); omega))).up); have RM2 : Row w2 m (cvC (.slice ao l.length cap)) := HR.out.up HU2.out; have rb := RM2.cell 2 rfl; have rf := RM2.free 2; have lm2 := RM2.lt; have HO2 := Lib.hid hown2; clear hown2 hgr2 hC2)
        refine hK.out _ _ ?_ (fun hHeld => ?_)
        · exact RI2
        clear hK K
        (try simp only [Act.put, lga, lgz, lgs, lsa, lsz, lss])
        refine wpAnyH_take (i := 11) (v := ?_) rfl (by kernel_rfl) (by kernel_rfl) (by kernel_rfl) (fun _ _ _ h => h) (Or.inl ⟨by rfl, ?_⟩) (by assumption) ?_
        rotate_left
        · intro w2 hSw
          (try dsimp only at hSw)
          (try (obtain ⟨hs1, hs2, hs3⟩ := hSw))
          go_simp
          (try (with_reducible rfl))
        (try simp only [Act.put, lga, lgz, lgs, lsa, lsz, lss])
        refine wpAnyH_take (i := 12) (v := ?_) rfl (by kernel_rfl) (by kernel_rfl) (by kernel_rfl) (fun _ _ _ h => h) (Or.inl ⟨by rfl, ?_⟩) (by assumption) ?_
        rotate_left
        · intro w2 hSw
          (try dsimp only at hSw)
          (try (obtain ⟨hs1, hs2, hs3⟩ := hSw))
          go_simp
          (try (with_reducible rfl))
        (try simp only [Act.put, lga, lgz, lgs, lsa, lsz, lss])
        refine wpAnyH_take (i := 13) (v := ?_) rfl (by kernel_rfl) (by kernel_rfl) (by kernel_rfl) (fun _ _ _ h => h) (Or.inl ⟨by rfl, ?_⟩) (by assumption) ?_
        rotate_left
        · intro w2 hSw
          (try dsimp only at hSw)
          (try (obtain ⟨hs1, hs2, hs3⟩ := hSw))
          go_simp
          (try (with_reducible rfl))
        (try simp only [Act.put, lga, lgz, lgs, lsa, lsz, lss])
        refine wpAnyH_ready (rs := [14]) (by decide +kernel) (by simp) ?_
        refine AllReadyH.cons rfl (fun K hK => ?_) (AllReadyH.nil)
        (try simp only [lga, lgz, lgs])
        (go_simp)
        refine hK.out _ _ ?_ (fun hHeld => ?_)
        · exact Row.chg RI2 ((Chg.refl [m] w2).setCell (Or.inl (by simp)) _) (by simp; omega)
        clear hK K
        (try simp only [Act.put, lga, lgz, lgs, lsa, lsz, lss])
        refine wpAnyH_done (by kernel_rfl) ?_ _
        go_wp2
        go_ret
        obtain ⟨hob, hfr⟩ := owned_base HO2.out
        have hgm : g2 ≠ m := fun e => by have := hfr g2 rfl; have := HLM.out; omega
        refine ⟨rfl, .slice (some ⟨g2, 0, none⟩) (l.length + 1) cap2, Row.put RM2 rfl, ?_, (Chg.of_up HU2.out).setCell (Or.inl (by simp)) _, fun g hg => by have := hfr g (own_of hg); omega⟩
        have e1 : (l ++ [(⟨⟨fn, mm, bs⟩, ca, cc, ba, bc⟩ : Cl)]).length = l.length + 1 := by simp
        show World.ownsRow _ _ _ _ _ (l ++ [_]).length _
        rw [e1, clCells_append]
        rw [List.nil_append, Nat.zero_add] at hob
        exact ownsRow_setCell_other hob (by simp [Value.ownBlock]; exact hgm) _
    · skip
      (try simp only [lga, lgz, lgs])
      (go_simp)
      refine hK.out _ _ ?_ (fun hHeld => ?_)
      · exact (show Row _ w.heap.size #[.int .i64 4, .slice none 0 0, .int .i64 1, .int .i64 0, .int .i64 0, .int .i64 0, .int .i64 0, .slice ca 0 cc, .int .i64 0, .int .i64 0, .int .i64 0, .int .i64 0, .slice none 0 0, .int .i64 0, .int .i64 fn, .int .i64 mm.a, .int .i64 mm.b, .int .i64 mm.c, .int .i64 mm.d, .int .i64 mm.x, .int .i64 mm.y, .slice ba bs.length bc] from (by exact ra))
      clear hK K
      (try simp only [Act.put, lga, lgz, lgs, lsa, lsz, lss])
      refine wpAnyH_ready (rs := [1]) (by decide +kernel) (by simp) ?_
      refine AllReadyH.cons rfl (fun K hK => ?_) (AllReadyH.nil)
      (try simp only [lga, lgz, lgs])
      (go_simp)
      refine hK.out _ _ ?_ (fun hHeld => ?_)
      · exact (show Row _ w.heap.size #[.int .i64 4, .slice none 0 0, .int .i64 1, .int .i64 0, .int .i64 0, .int .i64 0, .int .i64 0, .slice ca 0 cc, .int .i64 0, .int .i64 0, .int .i64 0, .int .i64 0, .slice none 0 0, .int .i64 0, .int .i64 fn, .int .i64 mm.a, .int .i64 mm.b, .int .i64 mm.c, .int .i64 mm.d, .int .i64 mm.x, .int .i64 mm.y, .slice ba bs.length bc] from (by exact ra))
      clear hK K
      (try simp only [Act.put, lga, lgz, lgs, lsa, lsz, lss])
      refine wpAnyH_ready (rs := [7]) (by decide +kernel) (by simp) ?_
      refine AllReadyH.cons rfl (fun K hK => ?_) (AllReadyH.nil)
      (try simp only [lga, lgz, lgs])
      (rw [if_pos (by rfl)]; refine wp_append_any rfl (.tmp 13) (.tmp 18) 43 rfl (w.heap.size + 1) 79 i0 (.agg #[.int .i64 0, .slice none 0 0, .int .i64 0, .int .i64 0, .int .i64 0, .int .i64 0, .int .i64 0, .slice none 0 0, .int .i64 0, .int .i64 0, .int .i64 0, .int .i64 0, .slice none 0 0, .int .i64 0, .int .i64 0, .int .i64 0, .int .i64 0, .int .i64 0, .int .i64 0, .int .i64 0, .int .i64 0, .slice none 0 0]) 22 240 Tryz.underlying43 hi hz0 hz1 hz2 rfl (by decide) (.slice (some ⟨w.heap.size + 1 + 1, 0, none⟩) 0 0) 0 [] rfl (made_any (by first | exact made_it (by first | (simp; done) | rfl) (by omega) | exact raw_upB (made_it (by first | (simp; done) | rfl) (by omega)) (Up.drew (Up.refl _)) | exact raw_upB (made_it (by first | (simp; done) | rfl) (by omega)) (Up.drew (Up.alloc (Up.refl _) _)) | exact raw_upB (made_it (by first | (simp; done) | rfl) (by omega)) (Up.alloc (Up.refl _) _))) ao l.length cap (clCells l) rfl (clCells_length l) HNN.out (fun ad e j u hj => (HNW.out ad e j u hj _ (by exact ua))) (clCells_one l) (by unfold maxLen; omega) (by omega) (by first | (simp; done) | (simp; omega) | omega) ?_; intro va wa hown hgr; have za := hgr.size; (try simp at za); have hCa : Chg [w.heap.size + 1 + 1] _ wa := Chg.grown (Chg.refl _ _) hgr (fun k hk => Or.inl (by simp only [Value.ownBlock, Option.some.injEq] at hk; simp [hk])); have HUA := Lib.hid (show Up w wa from ((show Chg [] w _ by (repeat' (first | (with_reducible first | exact Chg.refl _ _ | assumption | refine Chg.alloc ?_ _ | refine Chg.drew ?_ | refine Chg.drewN ?_ _ | refine Chg.setCell ?_ ?_ _ | refine Chg.upc ?_ (by assumption) | refine Chg.call ?_ (by assumption) ?_) | (refine Or.inl ?_; (simp; done)) | (simp; done) | (simp; omega) | omega))).call hCa (fun k hk => Or.inr (by simp at hk; omega))).up); have RIa : Row wa w.heap.size #[.int .i64 4, .slice none 0 0, .int .i64 1, .int .i64 0, .int .i64 0, .int .i64 0, .int .i64 0, .slice ca 0 cc, .int .i64 0, .int .i64 0, .int .i64 0, .int .i64 0, .slice none 0 0, .int .i64 0, .int .i64 fn, .int .i64 mm.a, .int .i64 mm.b, .int .i64 mm.c, .int .i64 mm.d, .int .i64 mm.x, .int .i64 mm.y, .slice ba bs.length bc] := Row.chg (show Row _ w.heap.size #[.int .i64 4, .slice none 0 0, .int .i64 1, .int .i64 0, .int .i64 0, .int .i64 0, .int .i64 0, .slice ca 0 cc, .int .i64 0, .int .i64 0, .int .i64 0, .int .i64 0, .slice none 0 0, .int .i64 0, .int .i64 fn, .int .i64 mm.a, .int .i64 mm.b, .int .i64 mm.c, .int .i64 mm.d, .int .i64 mm.x, .int .i64 mm.y, .slice ba bs.length bc] from (by exact ra)) hCa (by first | (simp; done) | (simp; omega)); have R9a : Row wa (w.heap.size + 1) #[.int .i64 4, .slice none 0 0, .int .i64 1, .int .i64 0, .int .i64 0, .int .i64 0, .int .i64 0, .slice ca 0 cc, .int .i64 0, .int .i64 0, .int .i64 0, .int .i64 0, .slice none 0 0, .int .i64 0, .int .i64 fn, .int .i64 mm.a, .int .i64 mm.b, .int .i64 mm.c, .int .i64 mm.d, .int .i64 mm.x, .int .i64 mm.y, .slice ba bs.length bc] := Row.chg (show Row _ (w.heap.size + 1) #[.int .i64 4, .slice none 0 0, .int .i64 1, .int .i64 0, .int .i64 0, .int .i64 0, .int .i64 0, .slice ca 0 cc, .int .i64 0, .int .i64 0, .int .i64 0, .int .i64 0, .slice none 0 0, .int .i64 0, .int .i64 fn, .int .i64 mm.a, .int .i64 mm.b, .int .i64 mm.c, .int .i64 mm.d, .int .i64 mm.x, .int .i64 mm.y, .slice ba bs.length bc] from (by exact ra)) hCa (by first | (simp; done) | (simp; omega)); have l9a := R9a.lt; have lIa := RIa.lt; have HO := Lib.hid hown; have HA := Lib.hid (owned_base hown).2; clear hown hCa hgr)
      refine hK.out _ _ ?_ (fun hHeld => ?_)
      · exact RIa
      clear hK K
      (try simp only [Act.put, lga, lgz, lgs, lsa, lsz, lss])
      refine wpAnyH_ready (rs := [10]) (by decide +kernel) (by simp) ?_
      refine AllReadyH.cons rfl (fun K hK => ?_) (AllReadyH.nil)
      (try simp only [lga, lgz, lgs])
      (rw [if_pos (by rfl)]; refine wp_append_lies _ (.tmp 19) (.tmp 21) 43 rfl (w.heap.size + 1) 79 i0 (.agg #[.int .i64 0, .slice none 0 0, .int .i64 0, .int .i64 0, .int .i64 0, .int .i64 0, .int .i64 0, .slice none 0 0, .int .i64 0, .int .i64 0, .int .i64 0, .int .i64 0, .slice none 0 0, .int .i64 0, .int .i64 0, .int .i64 0, .int .i64 0, .int .i64 0, .int .i64 0, .int .i64 0, .int .i64 0, .slice none 0 0]) 22 240 Tryz.underlying43 hi hz0 hz1 hz2 rfl (by decide) va (0 + l.length) ([] ++ clCells l) rfl (raw_upB HO.out (by exact ua)) ⟨w.heap.size + 1, 0, none⟩ 1 1 #[.int .i64 4, .slice none 0 0, .int .i64 1, .int .i64 0, .int .i64 0, .int .i64 0, .int .i64 0, .slice ca 0 cc, .int .i64 0, .int .i64 0, .int .i64 0, .int .i64 0, .slice none 0 0, .int .i64 0, .int .i64 fn, .int .i64 mm.a, .int .i64 mm.b, .int .i64 mm.c, .int .i64 mm.d, .int .i64 mm.x, .int .i64 mm.y, .slice ba bs.length bc].toList rfl rfl (news_at (by exact ra) rfl) (by simp [Value.oneCell']) (by decide) (by unfold maxLen; omega) (by omega) (by first | omega | (simp; omega)) _ rfl ?_; intro g2 cap2 w2 hown2 hgr2 hat hg2; have z2 := hgr2.size; (try simp at z2); have hC2 : Chg (own va) wa w2 := Chg.grown (Chg.of_up (by exact ua)) hgr2 (fun k hk => Or.inl (own_mem hk)); have RI2 : Row w2 w.heap.size #[.int .i64 4, .slice none 0 0, .int .i64 1, .int .i64 0, .int .i64 0, .int .i64 0, .int .i64 0, .slice ca 0 cc, .int .i64 0, .int .i64 0, .int .i64 0, .int .i64 0, .slice none 0 0, .int .i64 0, .int .i64 fn, .int .i64 mm.a, .int .i64 mm.b, .int .i64 mm.c, .int .i64 mm.d, .int .i64 mm.x, .int .i64 mm.y, .slice ba bs.length bc] := RIa.chg hC2 (fun hb => by have := HA.out _ (own_of hb); omega); have HU2 := Lib.hid (show Up w w2 from ((Chg.of_up (S := []) HUA.out).call hC2 (fun k hk => Or.inr (by have := HA.out _ (own_of hk); omega))).up); have RM2 : Row w2 m (cvC (.slice ao l.length cap)) := HR.out.up HU2.out; have rb := RM2.cell 2 rfl; have rf := RM2.free 2; have lm2 := RM2.lt; have HO2 := Lib.hid hown2; clear hown2 hgr2 hC2)
      refine hK.out _ _ ?_ (fun hHeld => ?_)
      · exact RI2
      clear hK K
      (try simp only [Act.put, lga, lgz, lgs, lsa, lsz, lss])
      refine wpAnyH_take (i := 11) (v := ?_) rfl (by kernel_rfl) (by kernel_rfl) (by kernel_rfl) (fun _ _ _ h => h) (Or.inl ⟨by rfl, ?_⟩) (by assumption) ?_
      rotate_left
      · intro w2 hSw
        (try dsimp only at hSw)
        (try (obtain ⟨hs1, hs2, hs3⟩ := hSw))
        go_simp
        (try (with_reducible rfl))
      (try simp only [Act.put, lga, lgz, lgs, lsa, lsz, lss])
      refine wpAnyH_take (i := 12) (v := ?_) rfl (by kernel_rfl) (by kernel_rfl) (by kernel_rfl) (fun _ _ _ h => h) (Or.inl ⟨by rfl, ?_⟩) (by assumption) ?_
      rotate_left
      · intro w2 hSw
        (try dsimp only at hSw)
        (try (obtain ⟨hs1, hs2, hs3⟩ := hSw))
        go_simp
        (try (with_reducible rfl))
      (try simp only [Act.put, lga, lgz, lgs, lsa, lsz, lss])
      refine wpAnyH_take (i := 13) (v := ?_) rfl (by kernel_rfl) (by kernel_rfl) (by kernel_rfl) (fun _ _ _ h => h) (Or.inl ⟨by rfl, ?_⟩) (by assumption) ?_
      rotate_left
      · intro w2 hSw
        (try dsimp only at hSw)
        (try (obtain ⟨hs1, hs2, hs3⟩ := hSw))
        go_simp
        (try (with_reducible rfl))
      (try simp only [Act.put, lga, lgz, lgs, lsa, lsz, lss])
      refine wpAnyH_ready (rs := [14]) (by decide +kernel) (by simp) ?_
      refine AllReadyH.cons rfl (fun K hK => ?_) (AllReadyH.nil)
      (try simp only [lga, lgz, lgs])
      (go_simp)
      refine hK.out _ _ ?_ (fun hHeld => ?_)
      · exact Row.chg RI2 ((Chg.refl [m] w2).setCell (Or.inl (by simp)) _) (by simp; omega)
      clear hK K
      (try simp only [Act.put, lga, lgz, lgs, lsa, lsz, lss])
      refine wpAnyH_done (by kernel_rfl) ?_ _
      go_wp2
      go_ret
      obtain ⟨hob, hfr⟩ := owned_base HO2.out
      have hgm : g2 ≠ m := fun e => by have := hfr g2 rfl; have := HLM.out; omega
      refine ⟨rfl, .slice (some ⟨g2, 0, none⟩) (l.length + 1) cap2, Row.put RM2 rfl, ?_, (Chg.of_up HU2.out).setCell (Or.inl (by simp)) _, fun g hg => by have := hfr g (own_of hg); omega⟩
      have e1 : (l ++ [(⟨⟨fn, mm, bs⟩, ca, cc, ba, bc⟩ : Cl)]).length = l.length + 1 := by simp
      show World.ownsRow _ _ _ _ _ (l ++ [_]).length _
      rw [e1, clCells_append]
      rw [List.nil_append, Nat.zero_add] at hob
      exact ownsRow_setCell_other hob (by simp [Value.ownBlock]; exact hgm) _
  · skip
    (try simp only [lga, lgz, lgs])
    (go_simp)
    refine hK.out _ _ ?_ (fun hHeld => ?_)
    · exact (show Row _ w.heap.size #[.int .i64 4, .slice none 0 0, .int .i64 1, .int .i64 0, .int .i64 0, .int .i64 0, .int .i64 0, .slice ca 0 cc, .int .i64 0, .int .i64 0, .int .i64 0, .int .i64 0, .slice none 0 0, .int .i64 0, .int .i64 fn, .int .i64 mm.a, .int .i64 mm.b, .int .i64 mm.c, .int .i64 mm.d, .int .i64 mm.x, .int .i64 mm.y, .slice ba bs.length bc] from (by exact ra))
    clear hK K
    (try simp only [Act.put, lga, lgz, lgs, lsa, lsz, lss])
    refine wpAnyH_ready (rs := [1, 6]) (by decide +kernel) (by simp) ?_
    refine AllReadyH.cons rfl (fun K hK => ?_) (AllReadyH.cons rfl (fun K hK => ?_) (AllReadyH.nil))
    · skip
      (try simp only [lga, lgz, lgs])
      (go_simp)
      refine hK.out _ _ ?_ (fun hHeld => ?_)
      · exact (show Row _ w.heap.size #[.int .i64 4, .slice none 0 0, .int .i64 1, .int .i64 0, .int .i64 0, .int .i64 0, .int .i64 0, .slice ca 0 cc, .int .i64 0, .int .i64 0, .int .i64 0, .int .i64 0, .slice none 0 0, .int .i64 0, .int .i64 fn, .int .i64 mm.a, .int .i64 mm.b, .int .i64 mm.c, .int .i64 mm.d, .int .i64 mm.x, .int .i64 mm.y, .slice ba bs.length bc] from (by exact ra))
      clear hK K
      (try simp only [Act.put, lga, lgz, lgs, lsa, lsz, lss])
      refine wpAnyH_ready (rs := [6]) (by decide +kernel) (by simp) ?_
      refine AllReadyH.cons rfl (fun K hK => ?_) (AllReadyH.nil)
      (try simp only [lga, lgz, lgs])
      (go_simp)
      refine hK.out _ _ ?_ (fun hHeld => ?_)
      · exact hHeld
      clear hK K
      (try simp only [Act.put, lga, lgz, lgs, lsa, lsz, lss])
      refine wpAnyH_ready (rs := [7]) (by decide +kernel) (by simp) ?_
      refine AllReadyH.cons rfl (fun K hK => ?_) (AllReadyH.nil)
      (try simp only [lga, lgz, lgs])
      (rw [if_pos (by rfl)]; refine wp_append_any rfl (.tmp 13) (.tmp 18) 43 rfl (w.heap.size + 1) 79 i0 (.agg #[.int .i64 0, .slice none 0 0, .int .i64 0, .int .i64 0, .int .i64 0, .int .i64 0, .int .i64 0, .slice none 0 0, .int .i64 0, .int .i64 0, .int .i64 0, .int .i64 0, .slice none 0 0, .int .i64 0, .int .i64 0, .int .i64 0, .int .i64 0, .int .i64 0, .int .i64 0, .int .i64 0, .int .i64 0, .slice none 0 0]) 22 240 Tryz.underlying43 hi hz0 hz1 hz2 rfl (by decide) (.slice (some ⟨w.heap.size + 1 + 1, 0, none⟩) 0 0) 0 [] rfl (made_any (by first | exact made_it (by first | (simp; done) | rfl) (by omega) | exact raw_upB (made_it (by first | (simp; done) | rfl) (by omega)) (Up.drew (Up.refl _)) | exact raw_upB (made_it (by first | (simp; done) | rfl) (by omega)) (Up.drew (Up.alloc (Up.refl _) _)) | exact raw_upB (made_it (by first | (simp; done) | rfl) (by omega)) (Up.alloc (Up.refl _) _))) ao l.length cap (clCells l) rfl (clCells_length l) HNN.out (fun ad e j u hj => (HNW.out ad e j u hj _ (by exact ua))) (clCells_one l) (by unfold maxLen; omega) (by omega) (by first | (simp; done) | (simp; omega) | omega) ?_; intro va wa hown hgr; have za := hgr.size; (try simp at za); have hCa : Chg [w.heap.size + 1 + 1] _ wa := Chg.grown (Chg.refl _ _) hgr (fun k hk => Or.inl (by simp only [Value.ownBlock, Option.some.injEq] at hk; simp [hk])); have HUA := Lib.hid (show Up w wa from ((show Chg [] w _ by (repeat' (first | (with_reducible first | exact Chg.refl _ _ | assumption | refine Chg.alloc ?_ _ | refine Chg.drew ?_ | refine Chg.drewN ?_ _ | refine Chg.setCell ?_ ?_ _ | refine Chg.upc ?_ (by assumption) | refine Chg.call ?_ (by assumption) ?_) | (refine Or.inl ?_; (simp; done)) | (simp; done) | (simp; omega) | omega))).call hCa (fun k hk => Or.inr (by simp at hk; omega))).up); have RIa : Row wa w.heap.size #[.int .i64 4, .slice none 0 0, .int .i64 1, .int .i64 0, .int .i64 0, .int .i64 0, .int .i64 0, .slice ca 0 cc, .int .i64 0, .int .i64 0, .int .i64 0, .int .i64 0, .slice none 0 0, .int .i64 0, .int .i64 fn, .int .i64 mm.a, .int .i64 mm.b, .int .i64 mm.c, .int .i64 mm.d, .int .i64 mm.x, .int .i64 mm.y, .slice ba bs.length bc] := Row.chg (show Row _ w.heap.size #[.int .i64 4, .slice none 0 0, .int .i64 1, .int .i64 0, .int .i64 0, .int .i64 0, .int .i64 0, .slice ca 0 cc, .int .i64 0, .int .i64 0, .int .i64 0, .int .i64 0, .slice none 0 0, .int .i64 0, .int .i64 fn, .int .i64 mm.a, .int .i64 mm.b, .int .i64 mm.c, .int .i64 mm.d, .int .i64 mm.x, .int .i64 mm.y, .slice ba bs.length bc] from (by exact ra)) hCa (by first | (simp; done) | (simp; omega)); have R9a : Row wa (w.heap.size + 1) #[.int .i64 4, .slice none 0 0, .int .i64 1, .int .i64 0, .int .i64 0, .int .i64 0, .int .i64 0, .slice ca 0 cc, .int .i64 0, .int .i64 0, .int .i64 0, .int .i64 0, .slice none 0 0, .int .i64 0, .int .i64 fn, .int .i64 mm.a, .int .i64 mm.b, .int .i64 mm.c, .int .i64 mm.d, .int .i64 mm.x, .int .i64 mm.y, .slice ba bs.length bc] := Row.chg (show Row _ (w.heap.size + 1) #[.int .i64 4, .slice none 0 0, .int .i64 1, .int .i64 0, .int .i64 0, .int .i64 0, .int .i64 0, .slice ca 0 cc, .int .i64 0, .int .i64 0, .int .i64 0, .int .i64 0, .slice none 0 0, .int .i64 0, .int .i64 fn, .int .i64 mm.a, .int .i64 mm.b, .int .i64 mm.c, .int .i64 mm.d, .int .i64 mm.x, .int .i64 mm.y, .slice ba bs.length bc] from (by exact ra)) hCa (by first | (simp; done) | (simp; omega)); have l9a := R9a.lt; have lIa := RIa.lt; have HO := Lib.hid hown; have HA := Lib.hid (owned_base hown).2; clear hown hCa hgr)
      refine hK.out _ _ ?_ (fun hHeld => ?_)
      · exact RIa
      clear hK K
      (try simp only [Act.put, lga, lgz, lgs, lsa, lsz, lss])
      refine wpAnyH_ready (rs := [10]) (by decide +kernel) (by simp) ?_
      refine AllReadyH.cons rfl (fun K hK => ?_) (AllReadyH.nil)
      (try simp only [lga, lgz, lgs])
      (rw [if_pos (by rfl)]; refine wp_append_lies _ (.tmp 19) (.tmp 21) 43 rfl (w.heap.size + 1) 79 i0 (.agg #[.int .i64 0, .slice none 0 0, .int .i64 0, .int .i64 0, .int .i64 0, .int .i64 0, .int .i64 0, .slice none 0 0, .int .i64 0, .int .i64 0, .int .i64 0, .int .i64 0, .slice none 0 0, .int .i64 0, .int .i64 0, .int .i64 0, .int .i64 0, .int .i64 0, .int .i64 0, .int .i64 0, .int .i64 0, .slice none 0 0]) 22 240 Tryz.underlying43 hi hz0 hz1 hz2 rfl (by decide) va (0 + l.length) ([] ++ clCells l) rfl (raw_upB HO.out (by exact ua)) ⟨w.heap.size + 1, 0, none⟩ 1 1 #[.int .i64 4, .slice none 0 0, .int .i64 1, .int .i64 0, .int .i64 0, .int .i64 0, .int .i64 0, .slice ca 0 cc, .int .i64 0, .int .i64 0, .int .i64 0, .int .i64 0, .slice none 0 0, .int .i64 0, .int .i64 fn, .int .i64 mm.a, .int .i64 mm.b, .int .i64 mm.c, .int .i64 mm.d, .int .i64 mm.x, .int .i64 mm.y, .slice ba bs.length bc].toList rfl rfl (news_at (by exact ra) rfl) (by simp [Value.oneCell']) (by decide) (by unfold maxLen; omega) (by omega) (by first | omega | (simp; omega)) _ rfl ?_; intro g2 cap2 w2 hown2 hgr2 hat hg2; have z2 := hgr2.size; (try simp at z2); have hC2 : Chg (own va) wa w2 := Chg.grown (Chg.of_up (by exact ua)) hgr2 (fun k hk => Or.inl (own_mem hk)); have RI2 : Row w2 w.heap.size #[.int .i64 4, .slice none 0 0, .int .i64 1, .int .i64 0, .int .i64 0, .int .i64 0, .int .i64 0, .slice ca 0 cc, .int .i64 0, .int .i64 0, .int .i64 0, .int .i64 0, .slice none 0 0, .int .i64 0, .int .i64 fn, .int .i64 mm.a, .int .i64 mm.b, .int .i64 mm.c, .int .i64 mm.d, .int .i64 mm.x, .int .i64 mm.y, .slice ba bs.length bc] := RIa.chg hC2 (fun hb => by have := HA.out _ (own_of hb); omega); have HU2 := Lib.hid (show Up w w2 from ((Chg.of_up (S := []) HUA.out).call hC2 (fun k hk => Or.inr (by have := HA.out _ (own_of hk); omega))).up); have RM2 : Row w2 m (cvC (.slice ao l.length cap)) := HR.out.up HU2.out; have rb := RM2.cell 2 rfl; have rf := RM2.free 2; have lm2 := RM2.lt; have HO2 := Lib.hid hown2; clear hown2 hgr2 hC2)
      refine hK.out _ _ ?_ (fun hHeld => ?_)
      · exact RI2
      clear hK K
      (try simp only [Act.put, lga, lgz, lgs, lsa, lsz, lss])
      refine wpAnyH_take (i := 11) (v := ?_) rfl (by kernel_rfl) (by kernel_rfl) (by kernel_rfl) (fun _ _ _ h => h) (Or.inl ⟨by rfl, ?_⟩) (by assumption) ?_
      rotate_left
      · intro w2 hSw
        (try dsimp only at hSw)
        (try (obtain ⟨hs1, hs2, hs3⟩ := hSw))
        go_simp
        (try (with_reducible rfl))
      (try simp only [Act.put, lga, lgz, lgs, lsa, lsz, lss])
      refine wpAnyH_take (i := 12) (v := ?_) rfl (by kernel_rfl) (by kernel_rfl) (by kernel_rfl) (fun _ _ _ h => h) (Or.inl ⟨by rfl, ?_⟩) (by assumption) ?_
      rotate_left
      · intro w2 hSw
        (try dsimp only at hSw)
        (try (obtain ⟨hs1, hs2, hs3⟩ := hSw))
        go_simp
        (try (with_reducible rfl))
      (try simp only [Act.put, lga, lgz, lgs, lsa, lsz, lss])
      refine wpAnyH_take (i := 13) (v := ?_) rfl (by kernel_rfl) (by kernel_rfl) (by kernel_rfl) (fun _ _ _ h => h) (Or.inl ⟨by rfl, ?_⟩) (by assumption) ?_
      rotate_left
      · intro w2 hSw
        (try dsimp only at hSw)
        (try (obtain ⟨hs1, hs2, hs3⟩ := hSw))
        go_simp
        (try (with_reducible rfl))
      (try simp only [Act.put, lga, lgz, lgs, lsa, lsz, lss])
      refine wpAnyH_ready (rs := [14]) (by decide +kernel) (by simp) ?_
      refine AllReadyH.cons rfl (fun K hK => ?_) (AllReadyH.nil)
      (try simp only [lga, lgz, lgs])
      (go_simp)
      refine hK.out _ _ ?_ (fun hHeld => ?_)
      · exact Row.chg RI2 ((Chg.refl [m] w2).setCell (Or.inl (by simp)) _) (by simp; omega)
      clear hK K
      (try simp only [Act.put, lga, lgz, lgs, lsa, lsz, lss])
      refine wpAnyH_done (by kernel_rfl) ?_ _
      go_wp2
      go_ret
      obtain ⟨hob, hfr⟩ := owned_base HO2.out
      have hgm : g2 ≠ m := fun e => by have := hfr g2 rfl; have := HLM.out; omega
      refine ⟨rfl, .slice (some ⟨g2, 0, none⟩) (l.length + 1) cap2, Row.put RM2 rfl, ?_, (Chg.of_up HU2.out).setCell (Or.inl (by simp)) _, fun g hg => by have := hfr g (own_of hg); omega⟩
      have e1 : (l ++ [(⟨⟨fn, mm, bs⟩, ca, cc, ba, bc⟩ : Cl)]).length = l.length + 1 := by simp
      show World.ownsRow _ _ _ _ _ (l ++ [_]).length _
      rw [e1, clCells_append]
      rw [List.nil_append, Nat.zero_add] at hob
      exact ownsRow_setCell_other hob (by simp [Value.ownBlock]; exact hgm) _
    · skip
      (try simp only [lga, lgz, lgs])
      (go_simp)
      refine hK.out _ _ ?_ (fun hHeld => ?_)
      · exact hHeld
      clear hK K
      (try simp only [Act.put, lga, lgz, lgs, lsa, lsz, lss])
      refine wpAnyH_ready (rs := [1]) (by decide +kernel) (by simp) ?_
      refine AllReadyH.cons rfl (fun K hK => ?_) (AllReadyH.nil)
      (try simp only [lga, lgz, lgs])
      (go_simp)
      refine hK.out _ _ ?_ (fun hHeld => ?_)
      · exact (show Row _ w.heap.size #[.int .i64 4, .slice none 0 0, .int .i64 1, .int .i64 0, .int .i64 0, .int .i64 0, .int .i64 0, .slice ca 0 cc, .int .i64 0, .int .i64 0, .int .i64 0, .int .i64 0, .slice none 0 0, .int .i64 0, .int .i64 fn, .int .i64 mm.a, .int .i64 mm.b, .int .i64 mm.c, .int .i64 mm.d, .int .i64 mm.x, .int .i64 mm.y, .slice ba bs.length bc] from (by exact ra))
      clear hK K
      (try simp only [Act.put, lga, lgz, lgs, lsa, lsz, lss])
      refine wpAnyH_ready (rs := [7]) (by decide +kernel) (by simp) ?_
      refine AllReadyH.cons rfl (fun K hK => ?_) (AllReadyH.nil)
      (try simp only [lga, lgz, lgs])
      (rw [if_pos (by rfl)]; refine wp_append_any rfl (.tmp 13) (.tmp 18) 43 rfl (w.heap.size + 1) 79 i0 (.agg #[.int .i64 0, .slice none 0 0, .int .i64 0, .int .i64 0, .int .i64 0, .int .i64 0, .int .i64 0, .slice none 0 0, .int .i64 0, .int .i64 0, .int .i64 0, .int .i64 0, .slice none 0 0, .int .i64 0, .int .i64 0, .int .i64 0, .int .i64 0, .int .i64 0, .int .i64 0, .int .i64 0, .int .i64 0, .slice none 0 0]) 22 240 Tryz.underlying43 hi hz0 hz1 hz2 rfl (by decide) (.slice (some ⟨w.heap.size + 1 + 1, 0, none⟩) 0 0) 0 [] rfl (made_any (by first | exact made_it (by first | (simp; done) | rfl) (by omega) | exact raw_upB (made_it (by first | (simp; done) | rfl) (by omega)) (Up.drew (Up.refl _)) | exact raw_upB (made_it (by first | (simp; done) | rfl) (by omega)) (Up.drew (Up.alloc (Up.refl _) _)) | exact raw_upB (made_it (by first | (simp; done) | rfl) (by omega)) (Up.alloc (Up.refl _) _))) ao l.length cap (clCells l) rfl (clCells_length l) HNN.out (fun ad e j u hj => (HNW.out ad e j u hj _ (by exact ua))) (clCells_one l) (by unfold maxLen; omega) (by omega) (by first | (simp; done) | (simp; omega) | omega) ?_; intro va wa hown hgr; have za := hgr.size; (try simp at za); have hCa : Chg [w.heap.size + 1 + 1] _ wa := Chg.grown (Chg.refl _ _) hgr (fun k hk => Or.inl (by simp only [Value.ownBlock, Option.some.injEq] at hk; simp [hk])); have HUA := Lib.hid (show Up w wa from ((show Chg [] w _ by (repeat' (first | (with_reducible first | exact Chg.refl _ _ | assumption | refine Chg.alloc ?_ _ | refine Chg.drew ?_ | refine Chg.drewN ?_ _ | refine Chg.setCell ?_ ?_ _ | refine Chg.upc ?_ (by assumption) | refine Chg.call ?_ (by assumption) ?_) | (refine Or.inl ?_; (simp; done)) | (simp; done) | (simp; omega) | omega))).call hCa (fun k hk => Or.inr (by simp at hk; omega))).up); have RIa : Row wa w.heap.size #[.int .i64 4, .slice none 0 0, .int .i64 1, .int .i64 0, .int .i64 0, .int .i64 0, .int .i64 0, .slice ca 0 cc, .int .i64 0, .int .i64 0, .int .i64 0, .int .i64 0, .slice none 0 0, .int .i64 0, .int .i64 fn, .int .i64 mm.a, .int .i64 mm.b, .int .i64 mm.c, .int .i64 mm.d, .int .i64 mm.x, .int .i64 mm.y, .slice ba bs.length bc] := Row.chg (show Row _ w.heap.size #[.int .i64 4, .slice none 0 0, .int .i64 1, .int .i64 0, .int .i64 0, .int .i64 0, .int .i64 0, .slice ca 0 cc, .int .i64 0, .int .i64 0, .int .i64 0, .int .i64 0, .slice none 0 0, .int .i64 0, .int .i64 fn, .int .i64 mm.a, .int .i64 mm.b, .int .i64 mm.c, .int .i64 mm.d, .int .i64 mm.x, .int .i64 mm.y, .slice ba bs.length bc] from (by exact ra)) hCa (by first | (simp; done) | (simp; omega)); have R9a : Row wa (w.heap.size + 1) #[.int .i64 4, .slice none 0 0, .int .i64 1, .int .i64 0, .int .i64 0, .int .i64 0, .int .i64 0, .slice ca 0 cc, .int .i64 0, .int .i64 0, .int .i64 0, .int .i64 0, .slice none 0 0, .int .i64 0, .int .i64 fn, .int .i64 mm.a, .int .i64 mm.b, .int .i64 mm.c, .int .i64 mm.d, .int .i64 mm.x, .int .i64 mm.y, .slice ba bs.length bc] := Row.chg (show Row _ (w.heap.size + 1) #[.int .i64 4, .slice none 0 0, .int .i64 1, .int .i64 0, .int .i64 0, .int .i64 0, .int .i64 0, .slice ca 0 cc, .int .i64 0, .int .i64 0, .int .i64 0, .int .i64 0, .slice none 0 0, .int .i64 0, .int .i64 fn, .int .i64 mm.a, .int .i64 mm.b, .int .i64 mm.c, .int .i64 mm.d, .int .i64 mm.x, .int .i64 mm.y, .slice ba bs.length bc] from (by exact ra)) hCa (by first | (simp; done) | (simp; omega)); have l9a := R9a.lt; have lIa := RIa.lt; have HO := Lib.hid hown; have HA := Lib.hid (owned_base hown).2; clear hown hCa hgr)
      refine hK.out _ _ ?_ (fun hHeld => ?_)
      · exact RIa
      clear hK K
      (try simp only [Act.put, lga, lgz, lgs, lsa, lsz, lss])
      refine wpAnyH_ready (rs := [10]) (by decide +kernel) (by simp) ?_
      refine AllReadyH.cons rfl (fun K hK => ?_) (AllReadyH.nil)
      (try simp only [lga, lgz, lgs])
      (rw [if_pos (by rfl)]; refine wp_append_lies _ (.tmp 19) (.tmp 21) 43 rfl (w.heap.size + 1) 79 i0 (.agg #[.int .i64 0, .slice none 0 0, .int .i64 0, .int .i64 0, .int .i64 0, .int .i64 0, .int .i64 0, .slice none 0 0, .int .i64 0, .int .i64 0, .int .i64 0, .int .i64 0, .slice none 0 0, .int .i64 0, .int .i64 0, .int .i64 0, .int .i64 0, .int .i64 0, .int .i64 0, .int .i64 0, .int .i64 0, .slice none 0 0]) 22 240 Tryz.underlying43 hi hz0 hz1 hz2 rfl (by decide) va (0 + l.length) ([] ++ clCells l) rfl (raw_upB HO.out (by exact ua)) ⟨w.heap.size + 1, 0, none⟩ 1 1 #[.int .i64 4, .slice none 0 0, .int .i64 1, .int .i64 0, .int .i64 0, .int .i64 0, .int .i64 0, .slice ca 0 cc, .int .i64 0, .int .i64 0, .int .i64 0, .int .i64 0, .slice none 0 0, .int .i64 0, .int .i64 fn, .int .i64 mm.a, .int .i64 mm.b, .int .i64 mm.c, .int .i64 mm.d, .int .i64 mm.x, .int .i64 mm.y, .slice ba bs.length bc].toList rfl rfl (news_at (by exact ra) rfl) (by simp [Value.oneCell']) (by decide) (by unfold maxLen; omega) (by omega) (by first | omega | (simp; omega)) _ rfl ?_; intro g2 cap2 w2 hown2 hgr2 hat hg2; have z2 := hgr2.size; (try simp at z2); have hC2 : Chg (own va) wa w2 := Chg.grown (Chg.of_up (by exact ua)) hgr2 (fun k hk => Or.inl (own_mem hk)); have RI2 : Row w2 w.heap.size #[.int .i64 4, .slice none 0 0, .int .i64 1, .int .i64 0, .int .i64 0, .int .i64 0, .int .i64 0, .slice ca 0 cc, .int .i64 0, .int .i64 0, .int .i64 0, .int .i64 0, .slice none 0 0, .int .i64 0, .int .i64 fn, .int .i64 mm.a, .int .i64 mm.b, .int .i64 mm.c, .int .i64 mm.d, .int .i64 mm.x, .int .i64 mm.y, .slice ba bs.length bc] := RIa.chg hC2 (fun hb => by have := HA.out _ (own_of hb); omega); have HU2 := Lib.hid (show Up w w2 from ((Chg.of_up (S := []) HUA.out).call hC2 (fun k hk => Or.inr (by have := HA.out _ (own_of hk); omega))).up); have RM2 : Row w2 m (cvC (.slice ao l.length cap)) := HR.out.up HU2.out; have rb := RM2.cell 2 rfl; have rf := RM2.free 2; have lm2 := RM2.lt; have HO2 := Lib.hid hown2; clear hown2 hgr2 hC2)
      refine hK.out _ _ ?_ (fun hHeld => ?_)
      · exact RI2
      clear hK K
      (try simp only [Act.put, lga, lgz, lgs, lsa, lsz, lss])
      refine wpAnyH_take (i := 11) (v := ?_) rfl (by kernel_rfl) (by kernel_rfl) (by kernel_rfl) (fun _ _ _ h => h) (Or.inl ⟨by rfl, ?_⟩) (by assumption) ?_
      rotate_left
      · intro w2 hSw
        (try dsimp only at hSw)
        (try (obtain ⟨hs1, hs2, hs3⟩ := hSw))
        go_simp
        (try (with_reducible rfl))
      (try simp only [Act.put, lga, lgz, lgs, lsa, lsz, lss])
      refine wpAnyH_take (i := 12) (v := ?_) rfl (by kernel_rfl) (by kernel_rfl) (by kernel_rfl) (fun _ _ _ h => h) (Or.inl ⟨by rfl, ?_⟩) (by assumption) ?_
      rotate_left
      · intro w2 hSw
        (try dsimp only at hSw)
        (try (obtain ⟨hs1, hs2, hs3⟩ := hSw))
        go_simp
        (try (with_reducible rfl))
      (try simp only [Act.put, lga, lgz, lgs, lsa, lsz, lss])
      refine wpAnyH_take (i := 13) (v := ?_) rfl (by kernel_rfl) (by kernel_rfl) (by kernel_rfl) (fun _ _ _ h => h) (Or.inl ⟨by rfl, ?_⟩) (by assumption) ?_
      rotate_left
      · intro w2 hSw
        (try dsimp only at hSw)
        (try (obtain ⟨hs1, hs2, hs3⟩ := hSw))
        go_simp
        (try (with_reducible rfl))
      (try simp only [Act.put, lga, lgz, lgs, lsa, lsz, lss])
      refine wpAnyH_ready (rs := [14]) (by decide +kernel) (by simp) ?_
      refine AllReadyH.cons rfl (fun K hK => ?_) (AllReadyH.nil)
      (try simp only [lga, lgz, lgs])
      (go_simp)
      refine hK.out _ _ ?_ (fun hHeld => ?_)
      · exact Row.chg RI2 ((Chg.refl [m] w2).setCell (Or.inl (by simp)) _) (by simp; omega)
      clear hK K
      (try simp only [Act.put, lga, lgz, lgs, lsa, lsz, lss])
      refine wpAnyH_done (by kernel_rfl) ?_ _
      go_wp2
      go_ret
      obtain ⟨hob, hfr⟩ := owned_base HO2.out
      have hgm : g2 ≠ m := fun e => by have := hfr g2 rfl; have := HLM.out; omega
      refine ⟨rfl, .slice (some ⟨g2, 0, none⟩) (l.length + 1) cap2, Row.put RM2 rfl, ?_, (Chg.of_up HU2.out).setCell (Or.inl (by simp)) _, fun g hg => by have := hfr g (own_of hg); omega⟩
      have e1 : (l ++ [(⟨⟨fn, mm, bs⟩, ca, cc, ba, bc⟩ : Cl)]).length = l.length + 1 := by simp
      show World.ownsRow _ _ _ _ _ (l ++ [_]).length _
      rw [e1, clCells_append]
      rw [List.nil_append, Nat.zero_add] at hob
      exact ownsRow_setCell_other hob (by simp [Value.ownBlock]; exact hgm) _

end Go.Proofs.YtjdbefpfjhdmoaaGreatDoor.Sh
end
