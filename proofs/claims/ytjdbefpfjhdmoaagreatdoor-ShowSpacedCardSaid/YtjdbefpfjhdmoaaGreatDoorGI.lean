/- The reference's Path.Move onto a place within a state. No condition. The reference's on at a place. No condition. The reference's Spaced at a place. Its conditions: few bytes, room on the page. The reference's Spaced without a font or a place. No condition. What the reference's Spaced leaves of both; how many items Spaced lays. Its conditions: few bytes, room on the page. ShowSpaced, walked. Its condition: the fonts' names lie as they are laid. -/
import Derived.Test.YtjdbefpfjhdmoaaGreatDoorGC
import Derived.Test.YtjdbefpfjhdmoaaGreatDoorGD
import Derived.Test.YtjdbefpfjhdmoaaGreatDoorGH
import Derived.Test.YtjdbefpfjhdmoaaGreatDoorGE
namespace Go.Proofs.YtjdbefpfjhdmoaaGreatDoor.ZGI
open Go.ChangeShapes Go.WideShapes Go.ChangeAt Go.RowKit
theorem ra {w : World} {b : Nat} {cs : Array Value} (h : Row w b cs := by (repeat' (with_reducible first | assumption | (refine Row.at _ _ ?_; (simp; done)) | refine Row.alloc ?_ _ | refine Row.drew ?_ | refine Row.drewN ?_ _ | refine Row.other ?_ (by first | (simp; done) | (simp; omega) | omega) _ | refine Row.up ?_ (by assumption) | refine Row.chg ?_ (by assumption) (by first | (simp; done) | (simp; omega))))) : Row w b cs := h
theorem ua {w v : World} (h : Up w v := by (repeat' (first | (with_reducible first | exact Up.refl _ | assumption | refine Up.alloc ?_ _ | refine Up.drew ?_ | refine Up.drewN ?_ _ | refine Up.setCell ?_ ?_ _ | refine Up.call ?_ (by assumption)) | go_size))) : Up w v := h
theorem ro {w : World} {b : Nat} {cs : Array Value} (h : Row w b cs := by apply cast; (case h => (repeat (first | (with_reducible first | assumption | (apply Row.at; (simp; done)) | apply Row.alloc | apply Row.drew | apply Row.drewN | apply Row.set) | ((with_reducible apply Row.other); (case hp => first | (simp; done) | (simp; omega) | omega))))); (case e => rfl)) : Row w b cs := h
end Go.Proofs.YtjdbefpfjhdmoaaGreatDoor.ZGI
section
namespace Go.Proofs.YtjdbefpfjhdmoaaGreatDoor.Path
open Go.Proofs.YtjdbefpfjhdmoaaGreatDoor.ZGI
open Go.ChangeShapes Go.WideShapes Go.ChangeAt Go.RowKit
open Go.Proofs.YtjdbefpfjhdmoaaGreatDoor.PathM
open Go.Proofs.YtjdbefpfjhdmoaaGreatDoor.Sh (rsC)
set_option linter.unusedVariables false
set_option linter.unusedSimpArgs false

/-- the reference's path within a state -/
structure RefS (w : World) (b : Nat) (C : MatM.M6) (F : Int) (FM : MatM.M6) (dk : Bool) (v : Value) (most : Int) (l : List Seg) : Prop where
  row : Row w b (rsC C F FM dk most v)
  segs : Segs w v l
  len : l.length ≤ 100000000
def RSLeft (w : World) (b : Nat) (C : MatM.M6) (F : Int) (FM : MatM.M6) (dk : Bool) (v : Value) (most : Int) (l : List Seg) (w' : World) : Prop := ∃ v', RefS w' b C F FM dk v' most l ∧ Chg [b] w w' ∧ Own w v v'
theorem RSLeft.stored {w wa w2 : World} {b g2 c2 H : Nat} {C : MatM.M6} {F : Int} {FM : MatM.M6} {dk : Bool} {v va : Value} {most : Int} {l l' : List Seg} (h : RefS w b C F FM dk v most l) (hua : Up w wa) (hva : ∀ g, va.ownBlock = some g → w.heap.size ≤ g) (hc : Chg (own va) wa w2)
    (hat : va.ownBlock = some g2 ∨ g2 = H) (hH : wa.heap.size ≤ H) (ho : w2.ownsRow 0 114 7 (.slice (some ⟨g2, 0, none⟩) l'.length c2) l'.length (segCells l')) (hlen : l'.length ≤ 100000000) :
    RSLeft w b C F FM dk v most l' (w2.setCell ⟨b, 27, none⟩ (.slice (some ⟨g2, 0, none⟩) l'.length c2)) := by
  have hb := h.row.lt
  have hz := hua.size
  have hgw : w.heap.size ≤ g2 := by
    rcases hat with h1 | h1
    · exact hva g2 h1
    · omega
  have hC : Chg [] w w2 := (Chg.of_up hua).call hc (fun x hx => Or.inr (hva x (own_of hx)))
  have hR : Row w2 b (rsC C F FM dk most v) := h.row.chg hC (by simp)
  refine ⟨.slice (some ⟨g2, 0, none⟩) l'.length c2, ⟨Row.put hR rfl, ?_, hlen⟩, (hC.mono (by simp)).setCell (Or.inl (by simp)) _, fun g hg => Or.inr (by simp only [Value.ownBlock, Option.some.injEq] at hg; omega)⟩
  exact ownsRow_setCell_other ho (fun e => by simp only [Value.ownBlock, Option.some.injEq] at e; omega) _
set_option maxRecDepth 8000 in
set_option maxHeartbeats 4000000 in
theorem rmoves_on (b : Nat) (C : MatM.M6) (F : Int) (FM : MatM.M6) (dk : Bool) (most : Int) (g cap k : Nat) (l : List Seg) (x y : Int) (w : World) (h : RefS w b C F FM dk (.slice (some ⟨g, 0, none⟩) l.length cap) most l) (hk : l.length = k + 1) (hlen : k + 1 ≤ 1000000) (hl1 : lastK l = 1) (hf : fitsP (x, y) = true) :
    Calls Tryz.prog 22 #[.pointer (some ⟨b, 26, none⟩), .agg #[.int .i64 x, .int .i64 y]] w fun E w' => E = .returned (.int .i64 0) ∧ RSLeft w b C F FM dk (.slice (some ⟨g, 0, none⟩) l.length cap) most (l.dropLast ++ [⟨1, (x, y), Z, Z⟩]) w' := by
  have hlt := h.row.lt
  have q0 : w.cell? ⟨b, 26, none⟩ = some (.int .i64 most) := h.row.cell 26 rfl
  have q1 : w.cell? ⟨b, 27, none⟩ = some (.slice (some ⟨g, 0, none⟩) (k + 1) cap) := by have := h.row.cell 27 rfl; rwa [hk] at this
  have f1 := h.row.free 27
  have HR := Lib.hid h
  have hg : g < w.heap.size := (h.segs.lt g rfl).2
  have hcap : k + 1 ≤ cap ∧ cap ≤ maxLen := by
    rcases h.segs.form with ⟨e, _⟩ | ⟨g', c', e, h1, h2, _⟩
    · cases e
    · injection e with _ _ e3; omega
  have hwk : IntKind.i64.wrap (k : Int) = (k : Int) := wrap_small (by omega) (by omega)
  obtain ⟨hcap1, hcap2⟩ := hcap
  have hcap3 : k ≤ cap := by omega
  have hcap4 : cap ≤ 9223372036854775807 := by unfold maxLen at hcap2; exact hcap2
  have hgs := Lib.hid h.segs
  obtain ⟨i0, ji, jz0, jz1, jz2⟩ := info_parts infoSeg
  obtain ⟨s, hsg⟩ : ∃ s, l[k]? = some s := ⟨_, List.getElem?_eq_getElem (by omega)⟩
  have c0 := h.segs.at k _ hsg 0 (by decide) _ rfl
  rw [Nat.add_zero] at c0
  have hl : lastK l = s.k := by unfold lastK; rw [List.getLast?_eq_getElem?, hk, Nat.add_sub_cancel, hsg]
  have hb1 : b < w.heap.size + 1 := by omega
  have hb2 : b < w.heap.size + 1 + 1 := by omega
  have hb3 : b < w.heap.size + 1 + 1 + 1 := by omega
  have hb4 : b < w.heap.size + 1 + 1 + 1 + 1 := by omega
  have hb5 : b < w.heap.size + 1 + 1 + 1 + 1 + 1 := by omega
  have hg1 : g < w.heap.size + 1 := by omega
  have hg2 : g < w.heap.size + 1 + 1 := by omega
  have hg3 : g < w.heap.size + 1 + 1 + 1 := by omega
  have dkk : decide ((0 : Int) < (k : Int) + 1) = true := decide_eq_true (by omega)
  clear h hsg
  have HF := Lib.hid hf
  have h1 : s.k = 1 := hl.symm.trans hl1
  rw [h1] at c0
  clear hf h1 hl hl1
  go_enter Tryz.func22, Tryz.ntmps22
  go_wp2_with (go_at_call 51; ((with_reducible refine (Sh.fitsPoint_calls _ _ _).mono ?_); rintro E w1 ⟨rfl, rfl⟩; rw [HF.out]))
  go_region_law (first
    | (refine step_append_own rfl (.tmp 33) (.tmp 40) 38 rfl 0 114 i0 _ 7 56 Tryz.underlying38 ji jz0 jz1 jz2 rfl (by decide) (.slice (some ⟨w.heap.size + 1 + 1 + 1, 0, none⟩) 0 0) 0 [] rfl (made_any (by first | exact made_at (by simp) | exact raw_up (made_at (by simp)) (Up.drew (Up.refl _)) | exact raw_up (made_at (by simp)) (Up.drew (Up.alloc (Up.refl _) _)) | exact raw_up (made_at (by simp)) (Up.alloc (Up.refl _) _))) ⟨g, 0, none⟩ (k) cap (segCells l.dropLast) rfl (by rw [segCells_length]; simp [hk]) (fun j u hu => by rw [add_plain, Nat.zero_add]; exact ((show Up w _ by exact ua).cells.1 g j hg).trans (by have := hgs.out.cells (g := g) rfl j u (dropLast_at hu); rwa [add_plain, Nat.zero_add] at this)) (segCells_one _) (by unfold maxLen; omega) (by omega) (Nat.zero_le _) ?_; intro va wa hown hgr hnil hat; have HO := Lib.hid hown; have HUA := Lib.hid (show Up w wa from grown_up (by exact ua) hgr (fun k hk => by simp only [Value.ownBlock, Option.some.injEq] at hk; omega)); have hCa : Chg [w.heap.size + 1 + 1 + 1] _ wa := Chg.grown (Chg.refl _ _) hgr (fun k hk => Or.inl (by simp only [Value.ownBlock, Option.some.injEq] at hk; simp [hk])); have hza := HUA.out.size; have RS : Row wa (w.heap.size + 1 + 1) #[.int .i64 1, .int .i64 x, .int .i64 y, .int .i64 0, .int .i64 0, .int .i64 0, .int .i64 0] := Row.chg (show Row _ (w.heap.size + 1 + 1) #[.int .i64 1, .int .i64 x, .int .i64 y, .int .i64 0, .int .i64 0, .int .i64 0, .int .i64 0] by exact ra) hCa (by simp); have lRS := RS.lt; have lRS1 : w.heap.size + 1 + 1 < wa.heap.size + 1 := (by omega); have s0 : wa.cell? ⟨w.heap.size + 1 + 1, 0, none⟩ = some (.int .i64 1) := RS.cell 0 rfl; have s1 : wa.cell? ⟨w.heap.size + 1 + 1, 1, none⟩ = some (.int .i64 x) := RS.cell 1 rfl; have s2 : wa.cell? ⟨w.heap.size + 1 + 1, 2, none⟩ = some (.int .i64 y) := RS.cell 2 rfl; have s3 : wa.cell? ⟨w.heap.size + 1 + 1, 3, none⟩ = some (.int .i64 0) := RS.cell 3 rfl; have s4 : wa.cell? ⟨w.heap.size + 1 + 1, 4, none⟩ = some (.int .i64 0) := RS.cell 4 rfl; have s5 : wa.cell? ⟨w.heap.size + 1 + 1, 5, none⟩ = some (.int .i64 0) := RS.cell 5 rfl; have s6 : wa.cell? ⟨w.heap.size + 1 + 1, 6, none⟩ = some (.int .i64 0) := RS.cell 6 rfl; have HA := Lib.hid (show ∀ g, va.ownBlock = some g → w.heap.size ≤ g from fun g hg => by rcases hat with h1 | h1; (rw [h1] at hg; simp only [Value.ownBlock, Option.some.injEq] at hg; omega); (rw [h1] at hg; simp at hg; omega)); clear hown hgr hnil hat)
    | (refine step_append_own rfl (.tmp 33) (.tmp 40) 38 rfl 0 114 i0 _ 7 56 Tryz.underlying38 ji jz0 jz1 jz2 rfl (by decide) (.slice (some ⟨w.heap.size + 1 + 1 + 1 + 1, 0, none⟩) 0 0) 0 [] rfl (made_any (by first | exact made_at (by simp) | exact raw_up (made_at (by simp)) (Up.drew (Up.refl _)) | exact raw_up (made_at (by simp)) (Up.drew (Up.alloc (Up.refl _) _)) | exact raw_up (made_at (by simp)) (Up.alloc (Up.refl _) _))) ⟨g, 0, none⟩ (k) cap (segCells l.dropLast) rfl (by rw [segCells_length]; simp [hk]) (fun j u hu => by rw [add_plain, Nat.zero_add]; exact ((show Up w _ by exact ua).cells.1 g j hg).trans (by have := hgs.out.cells (g := g) rfl j u (dropLast_at hu); rwa [add_plain, Nat.zero_add] at this)) (segCells_one _) (by unfold maxLen; omega) (by omega) (Nat.zero_le _) ?_; intro va wa hown hgr hnil hat; have HO := Lib.hid hown; have HUA := Lib.hid (show Up w wa from grown_up (by exact ua) hgr (fun k hk => by simp only [Value.ownBlock, Option.some.injEq] at hk; omega)); have hCa : Chg [w.heap.size + 1 + 1 + 1 + 1] _ wa := Chg.grown (Chg.refl _ _) hgr (fun k hk => Or.inl (by simp only [Value.ownBlock, Option.some.injEq] at hk; simp [hk])); have hza := HUA.out.size; have RS : Row wa (w.heap.size + 1 + 1) #[.int .i64 1, .int .i64 x, .int .i64 y, .int .i64 0, .int .i64 0, .int .i64 0, .int .i64 0] := Row.chg (show Row _ (w.heap.size + 1 + 1) #[.int .i64 1, .int .i64 x, .int .i64 y, .int .i64 0, .int .i64 0, .int .i64 0, .int .i64 0] by exact ra) hCa (by simp); have lRS := RS.lt; have lRS1 : w.heap.size + 1 + 1 < wa.heap.size + 1 := (by omega); have s0 : wa.cell? ⟨w.heap.size + 1 + 1, 0, none⟩ = some (.int .i64 1) := RS.cell 0 rfl; have s1 : wa.cell? ⟨w.heap.size + 1 + 1, 1, none⟩ = some (.int .i64 x) := RS.cell 1 rfl; have s2 : wa.cell? ⟨w.heap.size + 1 + 1, 2, none⟩ = some (.int .i64 y) := RS.cell 2 rfl; have s3 : wa.cell? ⟨w.heap.size + 1 + 1, 3, none⟩ = some (.int .i64 0) := RS.cell 3 rfl; have s4 : wa.cell? ⟨w.heap.size + 1 + 1, 4, none⟩ = some (.int .i64 0) := RS.cell 4 rfl; have s5 : wa.cell? ⟨w.heap.size + 1 + 1, 5, none⟩ = some (.int .i64 0) := RS.cell 5 rfl; have s6 : wa.cell? ⟨w.heap.size + 1 + 1, 6, none⟩ = some (.int .i64 0) := RS.cell 6 rfl; have HA := Lib.hid (show ∀ g, va.ownBlock = some g → w.heap.size ≤ g from fun g hg => by rcases hat with h1 | h1; (rw [h1] at hg; simp only [Value.ownBlock, Option.some.injEq] at hg; omega); (rw [h1] at hg; simp at hg; omega)); clear hown hgr hnil hat)
    | (refine step_append_lies _ rfl (.tmp 41) (.tmp 43) 38 rfl 0 114 i0 _ 7 56 Tryz.underlying38 ji jz0 jz1 jz2 rfl (by decide) va (0 + (k)) ([] ++ segCells l.dropLast) rfl (raw_up HO.out (by exact ua)) _ 1 1 (segCells [⟨1, (x, y), Z, Z⟩]) rfl rfl (news_at (show Row _ _ #[.int .i64 1, .int .i64 x, .int .i64 y, .int .i64 0, .int .i64 0, .int .i64 0, .int .i64 0] by exact ra) rfl) (segCells_one _) (by decide) (by unfold maxLen; omega) (by omega) (Nat.zero_le _) _ rfl ?_; intro g2 c2 w2 hown hgr hat hg1; have hC2 : Chg (own va) wa w2 := Chg.grown (Chg.of_up (by exact ua)) hgr (fun k hk => Or.inl (own_mem hk)); have hCw : Chg [] w w2 := (Chg.of_up HUA.out).call hC2 (fun x hx => Or.inr (HA.out x (own_of hx))); have hRw := HR.out.row.chg hCw (by simp); have z1 : w2.cell? ⟨b, 27, none⟩ = some (.slice (some ⟨g, 0, none⟩) l.length cap) := hRw.cell 27 rfl; have zf := hRw.free 27; have HOW := Lib.hid hown; have HAT := Lib.hid hat; have HC2 := Lib.hid hC2; clear hown hat hC2 hgr hCw hRw))
  all_goals go_wp2
  all_goals
    go_ret
    refine ⟨rfl, ?_⟩
    have e : (l.dropLast ++ ([⟨1, (x, y), Z, Z⟩] : List Seg)).length = k + 1 := by simp [hk]
    have hw := HOW.out
    rw [List.nil_append, Nat.zero_add, ← segCells_append, ← e] at hw
    have := RSLeft.stored HR.out HUA.out HA.out HC2.out HAT.out (by simp) hw (by omega)
    rw [e] at this
    exact this


theorem rmoves_one (b : Nat) (C : MatM.M6) (F : Int) (FM : MatM.M6) (dk : Bool) (n : Int) (g cap : Nat) (x y tx tz : Int) (w : World) (h : RefS w b C F FM dk (.slice (some ⟨g, 0, none⟩) 1 cap) n [⟨1, (x, y), Z, Z⟩]) (hf : fitsP (tx, tz) = true) :
    Calls Tryz.prog 22 #[.pointer (some ⟨b, 26, none⟩), .agg #[.int .i64 tx, .int .i64 tz]] w fun E w' => E = .returned (.int .i64 0) ∧ RSLeft w b C F FM dk (.slice (some ⟨g, 0, none⟩) 1 cap) n [⟨1, (tx, tz), Z, Z⟩] w' :=
  rmoves_on b C F FM dk n g cap 0 [⟨1, (x, y), Z, Z⟩] tx tz w h rfl (by decide) rfl hf

end Go.Proofs.YtjdbefpfjhdmoaaGreatDoor.Path
end

section
namespace Go.Proofs.YtjdbefpfjhdmoaaGreatDoor.Sh
open List renaming getElem_toArray → lga, getElem_cons_zero → lgz, getElem_cons_succ → lgs, setIfInBounds_toArray → lsa, set_cons_zero → lsz, set_cons_succ → lss
open Go.Proofs.YtjdbefpfjhdmoaaGreatDoor.ZGI
open Go.ChangeShapes Go.WideShapes Go.ChangeAt Go.RowKit
open Go.Proofs.YtjdbefpfjhdmoaaGreatDoor.Gs
open Go.Proofs.YtjdbefpfjhdmoaaGreatDoor.MatM (M6)
open Go.Proofs.YtjdbefpfjhdmoaaGreatDoor.PathM
set_option linter.unusedVariables false
set_option linter.unusedSimpArgs false

theorem infoP2 : (Tryz.prog.info? 24).map (·.size) = some 2 := by kernel_rfl

set_option maxRecDepth 8000 in
set_option maxHeartbeats 4000000 in
theorem ron_bad (s : Nat) (C : M6) (F : Int) (FM : M6) (dk : Bool) (n : Int) (g cap : Nat) (x y bx bz tx tz : Int) (w : World) (h : Row w s (rsC C F FM dk n (.slice (some ⟨g, 0, none⟩) 1 cap))) (hs : Path.Segs w (.slice (some ⟨g, 0, none⟩) ([⟨1, (x, y), Z, Z⟩] : List Seg).length cap) [⟨1, (x, y), Z, Z⟩]) (e : Int) (hM : movedR C x y bx bz = ((tx, tz), e)) (he : e ≠ 0) :
    Calls Tryz.prog 39 #[.pointer (some ⟨s, 0, none⟩), .agg #[.int .i64 bx, .int .i64 bz]] w fun E w' => E = .returned (.int .i64 e) ∧ Up w w' := by
  have HR := Lib.hid h
  have HSG := Lib.hid hs
  have q27 : w.cell? ⟨s, 27, none⟩ = some (.slice (some ⟨g, 0, none⟩) 1 cap) := h.cell 27 rfl
  have HQ0 := Lib.hid q27
  have ls := h.lt
  have HLS := Lib.hid h.lt
  have HQ := Lib.hid (show ∀ W, Up w W → W.cell? ⟨s, 27, none⟩ = some (.slice (some ⟨g, 0, none⟩) 1 cap) from fun W hu => (h.up hu).cell 27 rfl)
  have HM := Lib.hid hM
  have t0 : (e == 0) = false := by simpa using he
  clear hM he
  clear h hs
  go_enter Tryz.func39, Tryz.ntmps39
  go_wp2_with (first
    | (go_at_call 29; ((with_reducible refine (Path.rcurs_calls s g cap x y _ (by first | assumption | (simp; omega)) (HQ.out _ (by exact ua)) (HSG.out.chg (S := []) (Chg.of_up (by exact ua)) (by simp))).mono ?_); rintro E w1 ⟨rfl, hu1⟩; have z1 := hu1.size; (try simp at z1); have R3_w1 : Row w1 w.heap.size #[.int .i64 bx, .int .i64 bz] := Row.up (show Row _ w.heap.size #[.int .i64 bx, .int .i64 bz] by exact ra) hu1; have c3_0 : w1.cell? ⟨w.heap.size, 0, none⟩ = some (.int .i64 bx) := R3_w1.cell 0 rfl; have c3_1 : w1.cell? ⟨w.heap.size, 1, none⟩ = some (.int .i64 bz) := R3_w1.cell 1 rfl; have l3 := R3_w1.lt; have l31 : w.heap.size < w1.heap.size + 1 := Nat.lt_succ_of_lt l3))
    | (go_at_call 31; ((with_reducible refine (led_calls s C F FM dk n _ x y bx bz _ (HR.out.up (show Chg [] w _ from (by (repeat' (first | (with_reducible first | exact Chg.refl _ _ | assumption | refine Chg.alloc ?_ _ | refine Chg.drew ?_ | refine Chg.drewN ?_ _ | refine Chg.setCell ?_ ?_ _ | refine Chg.upc ?_ (by assumption) | refine Chg.call ?_ (by assumption) ?_) | (refine Or.inl ?_; (simp; done)) | (simp; done) | (simp; omega) | omega)))).up)).mono ?_); rw [HM.out]; rintro E w4 ⟨rfl, hu4⟩; have z4 := hu4.size; (try simp at z4); have HU4 := Lib.hid (show Up w w4 from (show Chg [] w w4 by (repeat' (first | (with_reducible first | exact Chg.refl _ _ | assumption | refine Chg.alloc ?_ _ | refine Chg.drew ?_ | refine Chg.drewN ?_ _ | refine Chg.setCell ?_ ?_ _ | refine Chg.upc ?_ (by assumption) | refine Chg.call ?_ (by assumption) ?_) | (refine Or.inl ?_; (simp; done)) | (simp; done) | (simp; omega) | omega))).up))))
  go_ret
  exact ⟨rfl, (show Chg [] w _ by (repeat' (first | (with_reducible first | exact Chg.refl _ _ | assumption | refine Chg.alloc ?_ _ | refine Chg.drew ?_ | refine Chg.drewN ?_ _ | refine Chg.setCell ?_ ?_ _ | refine Chg.upc ?_ (by assumption) | refine Chg.call ?_ (by assumption) ?_) | (refine Or.inl ?_; (simp; done)) | (simp; done) | (simp; omega) | omega))).up⟩

theorem rsleft_up {w w1 w2 : World} {b : Nat} {C : M6} {F : Int} {FM : M6} {dk : Bool} {v : Value} {most : Int} {l : List Seg} (hu : Up w w1) (h : Path.RSLeft w1 b C F FM dk v most l w2) : Path.RSLeft w b C F FM dk v most l w2 := by
  obtain ⟨v', h1, h2, h3⟩ := h
  exact ⟨v', h1, (Chg.of_up (S := [b]) hu).call h2 (fun k hk => Or.inl hk), fun g hg => (h3 g hg).imp id (Nat.le_trans hu.size)⟩

set_option maxRecDepth 8000 in
set_option maxHeartbeats 4000000 in
theorem ron_good (s : Nat) (C : M6) (F : Int) (FM : M6) (dk : Bool) (n : Int) (g cap : Nat) (x y bx bz tx tz : Int) (w : World) (h : Row w s (rsC C F FM dk n (.slice (some ⟨g, 0, none⟩) 1 cap))) (hs : Path.Segs w (.slice (some ⟨g, 0, none⟩) ([⟨1, (x, y), Z, Z⟩] : List Seg).length cap) [⟨1, (x, y), Z, Z⟩]) (hM : movedR C x y bx bz = ((tx, tz), 0)) (hfp : fitsP (tx, tz) = true) :
    Calls Tryz.prog 39 #[.pointer (some ⟨s, 0, none⟩), .agg #[.int .i64 bx, .int .i64 bz]] w fun E w' => E = .returned (.int .i64 0) ∧ Path.RSLeft w s C F FM dk (.slice (some ⟨g, 0, none⟩) 1 cap) n [⟨1, (tx, tz), Z, Z⟩] w' := by
  have HR := Lib.hid h
  have HSG := Lib.hid hs
  have q27 : w.cell? ⟨s, 27, none⟩ = some (.slice (some ⟨g, 0, none⟩) 1 cap) := h.cell 27 rfl
  have HQ0 := Lib.hid q27
  have ls := h.lt
  have HLS := Lib.hid h.lt
  have HQ := Lib.hid (show ∀ W, Up w W → W.cell? ⟨s, 27, none⟩ = some (.slice (some ⟨g, 0, none⟩) 1 cap) from fun W hu => (h.up hu).cell 27 rfl)
  have HM := Lib.hid hM
  have HTF := Lib.hid hfp
  clear hM hfp
  clear h hs
  go_enter Tryz.func39, Tryz.ntmps39
  go_wp2_with (first
    | (go_at_call 29; ((with_reducible refine (Path.rcurs_calls s g cap x y _ (by first | assumption | (simp; omega)) (HQ.out _ (by exact ua)) (HSG.out.chg (S := []) (Chg.of_up (by exact ua)) (by simp))).mono ?_); rintro E w1 ⟨rfl, hu1⟩; have z1 := hu1.size; (try simp at z1); have R3_w1 : Row w1 w.heap.size #[.int .i64 bx, .int .i64 bz] := Row.up (show Row _ w.heap.size #[.int .i64 bx, .int .i64 bz] by exact ra) hu1; have c3_0 : w1.cell? ⟨w.heap.size, 0, none⟩ = some (.int .i64 bx) := R3_w1.cell 0 rfl; have c3_1 : w1.cell? ⟨w.heap.size, 1, none⟩ = some (.int .i64 bz) := R3_w1.cell 1 rfl; have l3 := R3_w1.lt; have l31 : w.heap.size < w1.heap.size + 1 := Nat.lt_succ_of_lt l3))
    | (go_at_call 31; ((with_reducible refine (led_calls s C F FM dk n _ x y bx bz _ (HR.out.up (show Chg [] w _ from (by (repeat' (first | (with_reducible first | exact Chg.refl _ _ | assumption | refine Chg.alloc ?_ _ | refine Chg.drew ?_ | refine Chg.drewN ?_ _ | refine Chg.setCell ?_ ?_ _ | refine Chg.upc ?_ (by assumption) | refine Chg.call ?_ (by assumption) ?_) | (refine Or.inl ?_; (simp; done)) | (simp; done) | (simp; omega) | omega)))).up)).mono ?_); rw [HM.out]; rintro E w4 ⟨rfl, hu4⟩; have z4 := hu4.size; (try simp at z4); have HU4 := Lib.hid (show Up w w4 from (show Chg [] w w4 by (repeat' (first | (with_reducible first | exact Chg.refl _ _ | assumption | refine Chg.alloc ?_ _ | refine Chg.drew ?_ | refine Chg.drewN ?_ _ | refine Chg.setCell ?_ ?_ _ | refine Chg.upc ?_ (by assumption) | refine Chg.call ?_ (by assumption) ?_) | (refine Or.inl ?_; (simp; done)) | (simp; done) | (simp; omega) | omega))).up))))
  refine wp_region_held_drew (S := fun w' => Row w' w4.heap.size #[.int .i64 tx, .int .i64 tz]) (by kernel_rfl) ?_ (fun hHeld => ?_)
  · exact Row.drew (show Row _ w4.heap.size #[.int .i64 tx, .int .i64 tz] from (by first | exact ra | exact (by exact ro)))
  refine wpAnyH_take (i := 0) (v := ?_) rfl (by kernel_rfl) (by kernel_rfl) (by kernel_rfl) (fun _ _ _ h => h) (Or.inl ⟨by rfl, ?_⟩) (by assumption) ?_
  rotate_left
  · intro w2 hSw
    (try dsimp only at hSw)
    (try (obtain ⟨hs1, hs2, hs3⟩ := hSw))
    go_simp
    (try (with_reducible rfl))
  (try simp only [Act.put, lga, lgz, lgs, lsa, lsz, lss])
  refine wpAnyH_take (i := 1) (v := ?_) rfl (by kernel_rfl) (by kernel_rfl) (by kernel_rfl) (fun _ _ _ h => h) (Or.inl ⟨by rfl, ?_⟩) (by assumption) ?_
  rotate_left
  · intro w2 hSw
    (try dsimp only at hSw)
    (try (obtain ⟨hs1, hs2, hs3⟩ := hSw))
    go_simp
    (try (with_reducible rfl))
  (try simp only [Act.put, lga, lgz, lgs, lsa, lsz, lss])
  refine wpAnyH_take (i := 2) (v := ?_) rfl (by kernel_rfl) (by kernel_rfl) (by kernel_rfl) (fun _ _ _ h => h) (Or.inl ⟨by rfl, ?_⟩) (by assumption) ?_
  rotate_left
  · intro w2 hSw
    (try dsimp only at hSw)
    (try (obtain ⟨hs1, hs2, hs3⟩ := hSw))
    go_simp
    (try (with_reducible rfl))
  (try simp only [Act.put, lga, lgz, lgs, lsa, lsz, lss])
  refine wpAnyH_take (i := 3) rfl (by kernel_rfl) (by kernel_rfl) (by kernel_rfl) (fun _ _ _ h => h) (yieldsIf_load_mid (by rfl) 24 (.tmp 7) rfl w4.heap.size 0 rfl #[.int .i64 tx, .int .i64 tz].toList _ (fun _ h => rng0 h) Tryz.underlying24 rfl (by exact infoP2)) (by assumption) ?_
  (try simp only [Act.put, lga, lgz, lgs, lsa, lsz, lss])
  refine wpAnyH_ready (rs := [4]) (by decide +kernel) (by simp) ?_
  refine AllReadyH.cons rfl (fun K hK => ?_) (AllReadyH.nil)
  (try simp only [lga, lgz, lgs])
  (go_simp; go_at_call 22; (with_reducible refine (Path.rmoves_one s C F FM dk n g cap x y tx tz _ ⟨HR.out.up (show Up w _ from (show Chg [] w _ from (by (repeat' (first | (with_reducible first | exact Chg.refl _ _ | assumption | refine Chg.alloc ?_ _ | refine Chg.drew ?_ | refine Chg.drewN ?_ _ | refine Chg.setCell ?_ ?_ _ | refine Chg.upc ?_ (by assumption) | refine Chg.call ?_ (by assumption) ?_) | (refine Or.inl ?_; (simp; done)) | (simp; done) | (simp; omega) | omega)))).up), HSG.out.chg (S := []) (show Chg [] w _ from (by (repeat' (first | (with_reducible first | exact Chg.refl _ _ | assumption | refine Chg.alloc ?_ _ | refine Chg.drew ?_ | refine Chg.drewN ?_ _ | refine Chg.setCell ?_ ?_ _ | refine Chg.upc ?_ (by assumption) | refine Chg.call ?_ (by assumption) ?_) | (refine Or.inl ?_; (simp; done)) | (simp; done) | (simp; omega) | omega)))) (by simp), (by simp)⟩ HTF.out).mono ?_); rintro E w6 ⟨rfl, hl6⟩; have HL6 := Lib.hid (rsleft_up (show Up w _ from (show Chg [] w _ from (by (repeat' (first | (with_reducible first | exact Chg.refl _ _ | assumption | refine Chg.alloc ?_ _ | refine Chg.drew ?_ | refine Chg.drewN ?_ _ | refine Chg.setCell ?_ ?_ _ | refine Chg.upc ?_ (by assumption) | refine Chg.call ?_ (by assumption) ?_) | (refine Or.inl ?_; (simp; done)) | (simp; done) | (simp; omega) | omega)))).up) hl6); (try dsimp only))
  refine hK.out _ _ ?_ (fun hHeld => ?_)
  · exact (let ⟨_, _, hc6, _⟩ := hl6; Row.chg hHeld hc6 (by have := HLS.out; simp; omega))
  clear hK K
  (try simp only [Act.put, lga, lgz, lgs, lsa, lsz, lss])
  refine wpAnyH_take (i := 5) (v := ?_) rfl (by kernel_rfl) (by kernel_rfl) (by kernel_rfl) (fun _ _ _ h => h) (Or.inl ⟨by rfl, ?_⟩) (by assumption) ?_
  rotate_left
  · intro w2 hSw
    (try dsimp only at hSw)
    (try (obtain ⟨hs1, hs2, hs3⟩ := hSw))
    go_simp
    (try (with_reducible rfl))
  (try simp only [Act.put, lga, lgz, lgs, lsa, lsz, lss])
  refine wpAnyH_done (by kernel_rfl) ?_ _
  clear hHeld
  go_wp2
  go_ret
  exact ⟨rfl, HL6.out⟩

end Go.Proofs.YtjdbefpfjhdmoaaGreatDoor.Sh
end

section
namespace Go.Proofs.YtjdbefpfjhdmoaaGreatDoor.Sh
open Go.Proofs.YtjdbefpfjhdmoaaGreatDoor.ZGI
open Go.ChangeShapes Go.WideShapes Go.ChangeAt Go.RowKit
open Go.Proofs.YtjdbefpfjhdmoaaGreatDoor.Gs
open Go.Proofs.YtjdbefpfjhdmoaaGreatDoor.MatM (M6)
open Go.Proofs.YtjdbefpfjhdmoaaGreatDoor.PathM
set_option linter.unusedVariables false
set_option linter.unusedSimpArgs false

section
variable {w w1 w2 : World} {s m : Nat} {C : M6} {F : Int} {FM : M6} {dk : Bool} {n : Int} {vl rv : Value} {T : St} {l : List Cl}
theorem Lettered.of_up {w0 : World} {T' : St} {its : List It} (hu : Up w0 w) (h : Lettered w s m C F FM dk n vl rv l T' its w1) : Lettered w0 s m C F FM dk n vl rv l T' its w1 := by
  obtain ⟨vl', rv', l', h1, h2, h3, h4⟩ := h
  exact ⟨vl', rv', l', h1, h2, (Chg.of_up (S := [s, m]) hu).call h3 (fun k hk => Or.inl hk), fun b hb => (h4 b hb).imp id (Nat.le_trans hu.size)⟩
theorem Lettered.more {T2 : St} {i1 i2 : List It} {vl1 rv1 : Value} {l1 : List Cl} (a2 : l1.map (·.it) = l.map (·.it) ++ i1) (a3 : Chg [s, m] w w1) (a4 : ∀ b ∈ own vl1 ++ own rv1 ++ bys l1, b ∈ own vl ++ own rv ++ bys l ∨ w.heap.size ≤ b)
    (h2 : Lettered w1 s m C F FM dk n vl1 rv1 l1 T2 i2 w2) : Lettered w s m C F FM dk n vl rv l T2 (i1 ++ i2) w2 := by
  obtain ⟨vl2, rv2, l2, b1, b2, b3, b4⟩ := h2
  have hz := a3.size
  refine ⟨vl2, rv2, l2, b1, by rw [b2, a2, List.append_assoc], a3.call b3 (fun k hk => Or.inl hk), fun b hb => ?_⟩
  rcases b4 b hb with h1 | h1
  · exact a4 b h1
  · exact Or.inr (by omega)
theorem Lettered.placed (h : Ref w s m C F FM dk n vl rv T l) {v6 : Value} {T' : St} (hs : Path.Segs w2 v6 T'.l) (ho : ∀ b ∈ own v6, b ∈ own vl ∨ w.heap.size ≤ b) (hr : Row w2 s (rsC C F FM dk n v6)) (hc : Chg [s] w w2) : Lettered w s m C F FM dk n vl rv l T' [] w2 := by
  have l1 := h.rs.lt
  have l2 := h.rm.lt
  have h6 : ∀ b ∈ own v6, b ≠ s ∧ b ≠ m := fun b hb => by
    rcases ho b hb with h2 | h2
    · exact h.off b (by simp [h2])
    · exact ⟨by omega, by omega⟩
  refine ⟨v6, rv, l, ⟨hr, h.rm.chg hc (by simpa using h.sm.symm), hs, owned_chg h.its hc (fun g hg => by simpa using (h.off g (by simp [own_mem hg])).1), h.bytes.chg hc (fun g hg => by simpa using (h.off g (by simp [hg])).1), h.lb, h.sm, ?_⟩, by simp, ?_, ?_⟩
  · intro b hb
    rcases List.mem_append.1 hb with hb | hb
    · rcases List.mem_append.1 hb with hb | hb
      · exact h6 b hb
      · exact h.off b (by simp [hb])
    · exact h.off b (by simp [hb])
  · exact hc.mono (fun x hx => by simp at hx; simp [hx])
  · intro b hb
    rcases List.mem_append.1 hb with hb | hb
    · rcases List.mem_append.1 hb with hb | hb
      · exact (ho b hb).imp (fun h => by simp [h]) id
      · exact Or.inl (by simp [hb])
    · exact Or.inl (by simp [hb])
theorem lettered_chg {its : List It} (h : Lettered w s m C F FM dk n vl rv l T its w1) : Chg [s, m] w w1 := by
  obtain ⟨_, _, _, _, _, h3, _⟩ := h
  exact h3
end
/-- behind what was shown: more -/
theorem rlet_from {w w1 : World} (s m : Nat) (C : M6) (F : Int) (FM : M6) (dk : Bool) (n : Int) (vl rv : Value) (l : List Cl) (x y : Int) (its : List It) (ba : Option Addr) (bc N : Nat) (bs : List Int) (hN : bs.length = N) (h : Lettered w s m C F FM dk n vl rv l (T1 n x y) its w1)
    (hv : Ints .u8 w1 (.slice ba N bc) bs) (hl : N ≤ 65535) (hln : l.length + its.length < 4096) :
    Calls Tryz.prog 8 #[.pointer (some ⟨m, 0, none⟩), .pointer (some ⟨s, 0, none⟩), .slice ba N bc] w1 fun E w' =>
      E = .returned (.int .i64 (letR C F FM dk x y bs).1) ∧ Lettered w s m C F FM dk n vl rv l (T1 n (letR C F FM dk x y bs).2.1.1 (letR C F FM dk x y bs).2.1.2) (its ++ (letR C F FM dk x y bs).2.2) w' := by
  subst hN
  obtain ⟨vl1, rv1, l1, a1, a2, a3, a4⟩ := h
  refine (rlet_calls s m C F FM dk n vl1 rv1 l1 x y ba bc bs w1 a1 hv hl (by have := congrArg List.length a2; simp at this; omega)).mono ?_
  rintro E w' ⟨rfl, hs⟩
  exact ⟨rfl, Lettered.more a2 a3 a4 hs⟩
theorem ron_from {w w1 : World} (s m : Nat) (C : M6) (F : Int) (FM : M6) (dk : Bool) (n : Int) (vl rv : Value) (l : List Cl) (x y bx bz : Int) (its : List It) (h : Lettered w s m C F FM dk n vl rv l (T1 n x y) its w1) :
    Calls Tryz.prog 39 #[.pointer (some ⟨s, 0, none⟩), .agg #[.int .i64 bx, .int .i64 bz]] w1 fun E w' => E = .returned (.int .i64 (movedR C x y bx bz).2) ∧
      Lettered w s m C F FM dk n vl rv l (if (movedR C x y bx bz).2 = 0 then T1 n (movedR C x y bx bz).1.1 (movedR C x y bx bz).1.2 else T1 n x y) its w' := by
  obtain ⟨vl1, rv1, l1, a1, a2, a3, a4⟩ := h
  obtain ⟨g, cap, rfl⟩ : ∃ g cap, vl1 = .slice (some ⟨g, 0, none⟩) 1 cap := by
    rcases a1.sg.form with ⟨_, e2⟩ | ⟨g', c', e, _, _, h1⟩
    · cases e2
    · exact ⟨g', c', e⟩
  obtain ⟨⟨⟨tx, tz⟩, te⟩, hM⟩ : ∃ X, movedR C x y bx bz = X := ⟨_, rfl⟩
  have hfp : fitsP (tx, tz) = true := by have := moved_fits C x y bx bz; rwa [hM] at this
  rw [hM]
  by_cases ht : te = 0
  · subst ht
    refine (ron_good s C F FM dk n g cap x y bx bz tx tz w1 a1.rs a1.sg hM hfp).mono ?_
    rintro E w' ⟨rfl, v', h1, h2, h3⟩
    have hs := Lettered.placed (T' := T1 n tx tz) a1 h1.segs (fun b hb => (h3 b (own_of hb)).imp own_mem id) h1.row h2
    rw [if_pos rfl]
    have := Lettered.more a2 a3 a4 hs
    rw [List.append_nil] at this
    exact ⟨rfl, this⟩
  · refine (ron_bad s C F FM dk n g cap x y bx bz tx tz w1 a1.rs a1.sg te hM ht).mono ?_
    rintro E w' ⟨rfl, hu⟩
    rw [if_neg ht]
    have := Lettered.more a2 a3 a4 (Lettered.same a1 hu)
    rw [List.append_nil] at this
    exact ⟨rfl, this⟩

set_option maxRecDepth 8000 in
set_option maxHeartbeats 8000000 in
theorem rspaced_calls (s m : Nat) (C : M6) (F : Int) (FM : M6) (dk : Bool) (n : Int) (vl rv : Value) (l : List Cl) (x y ax ay ox oy letter : Int) (ba : Option Addr) (bc N : Nat) (bs : List Int) (hN : bs.length = N) (w : World) (h : Ref w s m C F FM dk n vl rv (T1 n x y) l)
    (hxy : fitsP (x, y) = true) (hv : Ints .u8 w (.slice ba N bc) bs) (hl : N ≤ 300) (hln : l.length ≤ 100) (hF0 : decide (F < 0) = false) (hoff : 0 < N → ∀ b ∈ own (.slice ba N bc), b ∉ [s, m]) :
    Calls Tryz.prog 11 #[.pointer (some ⟨m, 0, none⟩), .pointer (some ⟨s, 0, none⟩), .slice ba N bc, .agg #[.int .i64 ax, .int .i64 ay], .agg #[.int .i64 ox, .int .i64 oy], .int .i64 letter] w fun E w' =>
      E = .returned (.int .i64 (spR C F FM dk (ax, ay) (ox, oy) letter (x, y) bs).1) ∧ Lettered w s m C F FM dk n vl rv l (T1 n (spR C F FM dk (ax, ay) (ox, oy) letter (x, y) bs).2.1.1 (spR C F FM dk (ax, ay) (ox, oy) letter (x, y) bs).2.1.2) (spR C F FM dk (ax, ay) (ox, oy) letter (x, y) bs).2.2 w' := by
  obtain ⟨g, cap, rfl⟩ : ∃ g cap, vl = .slice (some ⟨g, 0, none⟩) 1 cap := by
    rcases h.sg.form with ⟨_, e2⟩ | ⟨g', c', e, _, _, h1⟩
    · cases e2
    · exact ⟨g', c', e⟩
  generalize hvl : Value.slice (some ⟨g, 0, none⟩) 1 cap = vl at h ⊢
  have HH := Lib.hid h
  have HR := Lib.hid h.rs
  have HSG := Lib.hid (show Path.Segs w (.slice (some ⟨g, 0, none⟩) ([⟨1, (x, y), Z, Z⟩] : List Seg).length cap) [⟨1, (x, y), Z, Z⟩] from hvl ▸ h.sg)
  have HQ := Lib.hid (show ∀ W, Up w W → W.cell? ⟨s, 27, none⟩ = some (.slice (some ⟨g, 0, none⟩) 1 cap) from fun W hu => by have h1 : W.cell? ⟨s, 27, none⟩ = some vl := (h.rs.up hu).cell 27 rfl; rw [h1, ← hvl])
  have q17 : w.cell? ⟨s, 17, none⟩ = some (.int .i64 F) := h.rs.cell 17 rfl
  have ls := h.rs.lt
  have ls1 : s < w.heap.size + 1 := Nat.lt_succ_of_lt ls
  have ls2 : s < w.heap.size + 1 + 1 := Nat.lt_succ_of_lt ls1
  have HN := Lib.hid hN
  have HV := Lib.hid hv
  have HXY := Lib.hid hxy
  have HOF := Lib.hid hoff
  have HLS := Lib.hid (And.intro h.rs.lt h.rm.lt)
  clear h hN hv hxy hoff hvl
  go_enter Tryz.func11, Tryz.ntmps11
  go_wp2_with (go_at_call 29; ((with_reducible refine (Path.rcurs_calls s g cap x y _ (by first | assumption | (simp; omega)) (HQ.out _ (by exact ua)) (HSG.out.chg (S := []) (Chg.of_up (by exact ua)) (by simp))).mono ?_); rintro E w1 ⟨rfl, hu1⟩; have z1 := hu1.size; (try simp at z1); have R9_w1 : Row w1 w.heap.size #[.int .i64 ax, .int .i64 ay] := Row.up (show Row _ w.heap.size #[.int .i64 ax, .int .i64 ay] by exact ra) hu1; have R10_w1 : Row w1 (w.heap.size + 1) #[.int .i64 ox, .int .i64 oy] := Row.up (show Row _ (w.heap.size + 1) #[.int .i64 ox, .int .i64 oy] by exact ra) hu1; have HU1 := Lib.hid (show Up w w1 by exact ua)))
  go_loopw [15] (fun s15 wr => ∃ k : Nat, ∃ qx qy its, k ≤ N ∧ s15 = .int .i64 k ∧ Hid (Lettered w1 s m C F FM dk n vl rv l (T1 n qx qy) its wr) ∧ Hid (fitsP (qx, qy) = true) ∧ Hid (its.length ≤ k) ∧ Hid ((spR C F FM dk (ax, ay) (ox, oy) letter (x, y) bs) = ((spR C F FM dk (ax, ay) (ox, oy) letter (qx, qy) (bs.drop k)).1, (spR C F FM dk (ax, ay) (ox, oy) letter (qx, qy) (bs.drop k)).2.1, its ++ (spR C F FM dk (ax, ay) (ox, oy) letter (qx, qy) (bs.drop k)).2.2))) (fun s15 _ => N - (intOf s15).toNat)
  case atStart => exact ⟨0, x, y, [], Nat.zero_le _, rfl, Lib.hid (Lettered.same (HH.out.up HU1.out) ((show Chg [] w1 _ from (by (repeat' (first | (with_reducible first | exact Chg.refl _ _ | assumption | refine Chg.alloc ?_ _ | refine Chg.drew ?_ | refine Chg.drewN ?_ _ | refine Chg.setCell ?_ ?_ _ | refine Chg.upc ?_ (by assumption) | refine Chg.call ?_ (by assumption) ?_) | (refine Or.inl ?_; (simp; done)) | (simp; done) | (simp; omega) | omega)))).up)), HXY, Lib.hid (by simp), Lib.hid (by simp)⟩

  case round =>
    obtain ⟨k, qx, qy, its, hk, rfl, HSR, HFQ, HIL, HEQ⟩ := hrel
    have hcr := lettered_chg HSR.out
    have hzr := hcr.size
    by_cases hlt : k < N
    · obtain ⟨b, hb⟩ : ∃ b, bs[k]? = some b := ⟨_, List.getElem?_eq_getElem (by have := HN.out; omega)⟩
      obtain ⟨gb, ob, rfl, hgb, hcb⟩ := ints_some HV.out HN.out (by omega)
      have hcm := List.mem_of_getElem? hb
      have hwf := HV.out.wf b hcm
      have hbc : N ≤ bc ∧ bc ≤ 9223372036854775807 := ints_cap HV.out HN.out
      obtain ⟨hbc1, hbc2⟩ := hbc
      have hcw : Chg [s, m] w wr := ((Chg.of_up HU1.out).call hcr (fun k hk => Or.inl hk))
      have hq : wr.cell? ⟨gb, ob + k, none⟩ = some (.int .u8 b) := by
        rw [hcw.cells.1 gb _ hgb (HOF.out (by omega) gb (by simp [own, Value.ownBlock])), hcb k hlt]
        have : bs.getD k 0 = b := by rw [List.getD_eq_getElem?_getD, hb]; rfl
        rw [this]
      have HBN := Lib.hid (show gb ∉ [s, m] from HOF.out (by omega) gb (by simp [own, Value.ownBlock]))
      have HCB1 := Lib.hid (show w1.cell? ⟨gb, ob + k, none⟩ = some (.int .u8 b) from by rw [HU1.out.cells.1 gb _ hgb, hcb k hlt]; have : bs.getD k 0 = b := by { rw [List.getD_eq_getElem?_getD, hb]; rfl }; rw [this])
      have HBL1 := Lib.hid (show gb < w1.heap.size from Nat.lt_of_lt_of_le hgb HU1.out.size)
      have HBG := Lib.hid (show gb < wr.heap.size from Nat.lt_of_lt_of_le hgb hcw.size)
      have HCB := Lib.hid hq
      have HWB := Lib.hid hwf
      have HD := Lib.hid (drop_at hb)
      have hwrap : IntKind.i64.wrap b = b := by have := bounds_u8 hwf; exact wrap_small (by omega) (by omega)
      have hlg := HBG.out
      obtain ⟨⟨re, ⟨rx, ry⟩, ri⟩, hL⟩ : ∃ X, letR C F FM dk qx qy [b] = X := ⟨_, rfl⟩
      obtain ⟨⟨⟨mx, mz⟩, me⟩, hM⟩ : ∃ X, movedR C rx ry ax ay = X := ⟨_, rfl⟩
      obtain ⟨⟨⟨kx, kz⟩, ke⟩, hK⟩ : ∃ X, movedR C mx mz ox oy = X := ⟨_, rfl⟩
      have HL := Lib.hid hL
      have HM := Lib.hid hM
      have HK := Lib.hid hK
      have HRL := Lib.hid (show ri.length ≤ 1 by have := let_one (C := C) (F := F) (FM := FM) (dk := dk) (x := qx) (y := qy) (zs := [b]); rwa [hL] at this)
      have HF1 := Lib.hid (show fitsP (mx, mz) = true by have := moved_fits C rx ry ax ay; rwa [hM] at this)
      have HF2 := Lib.hid (show fitsP (kx, kz) = true by have := moved_fits C mx mz ox oy; rwa [hK] at this)
      have HLE := Lib.hid (show re ≠ 0 → ((rx, ry), ri) = ((qx, qy), []) by
        intro h
        have := let_err (C := C) (F := F) (FM := FM) (dk := dk) (x := qx) (y := qy) (zs := [b]) (by rw [hL]; exact h)
        rwa [hL] at this)
      clear hcm hwf hb hcb hL hM hK hcw hcr
      by_cases hre : re = 0
      rotate_left
      · have t1 : (re == 0) = false := by simpa using hre
        have HRE := Lib.hid hre
        clear hre
        go_wp2_with (go_at_call 8; ((with_reducible refine (rlet_from s m C F FM dk n vl rv l qx qy its _ _ 1 [b] rfl HSR.out (ints_one HBG.out HCB.out HWB.out (by omega) (by omega)) (by decide) (by have := HIL.out; omega)).mono ?_); rw [HL.out]; rintro E w4 ⟨rfl, hs4⟩; have hc4 := lettered_chg hs4; have z4 := hc4.size; have R9_w4 : Row w4 w.heap.size #[.int .i64 ax, .int .i64 ay] := R9_w1.chg hc4 (by have := HLS.out; simp; omega); have c9_0 : w4.cell? ⟨w.heap.size, 0, none⟩ = some (.int .i64 ax) := R9_w4.cell 0 rfl; have c9_1 : w4.cell? ⟨w.heap.size, 1, none⟩ = some (.int .i64 ay) := R9_w4.cell 1 rfl; have l9 := R9_w4.lt; have HS4 := Lib.hid hs4; clear hs4 hc4))
        go_ret
        refine ⟨?_, Lettered.of_up HU1.out (show Lettered w1 s m C F FM dk n vl rv l (T1 n (spR C F FM dk (ax, ay) (ox, oy) letter (x, y) bs).2.1.1 (spR C F FM dk (ax, ay) (ox, oy) letter (x, y) bs).2.1.2) (spR C F FM dk (ax, ay) (ox, oy) letter (x, y) bs).2.2 _ from ?_)⟩
        · rw [HEQ.out, HD.out, spR_a (q := (qx, qy)) (a := (ax, ay)) (o := (ox, oy)) (letter := letter) HL.out HRE.out]; rfl
        · rw [HEQ.out, HD.out, spR_a (q := (qx, qy)) (a := (ax, ay)) (o := (ox, oy)) (letter := letter) HL.out HRE.out]; exact (by have h1 := HS4.out; have h2 := HLE.out HRE.out; simp only [Prod.mk.injEq] at h2; obtain ⟨⟨rfl, rfl⟩, rfl⟩ := h2; exact h1)
      · have HRE := Lib.hid hre
        subst hre
        by_cases hme : me = 0
        rotate_left
        · have t2 : (me == 0) = false := by simpa using hme
          have HME := Lib.hid hme
          clear hme
          go_wp2_with (first
            | (go_at_call 8; ((with_reducible refine (rlet_from s m C F FM dk n vl rv l qx qy its _ _ 1 [b] rfl HSR.out (ints_one HBG.out HCB.out HWB.out (by omega) (by omega)) (by decide) (by have := HIL.out; omega)).mono ?_); rw [HL.out]; rintro E w4 ⟨rfl, hs4⟩; have hc4 := lettered_chg hs4; have z4 := hc4.size; have R9_w4 : Row w4 w.heap.size #[.int .i64 ax, .int .i64 ay] := R9_w1.chg hc4 (by have := HLS.out; simp; omega); have c9_0 : w4.cell? ⟨w.heap.size, 0, none⟩ = some (.int .i64 ax) := R9_w4.cell 0 rfl; have c9_1 : w4.cell? ⟨w.heap.size, 1, none⟩ = some (.int .i64 ay) := R9_w4.cell 1 rfl; have l9 := R9_w4.lt; have HS4 := Lib.hid hs4; clear hs4 hc4))
            | (go_at_call 39; ((with_reducible refine (ron_from s m C F FM dk n vl rv l rx ry ax ay _ HS4.out).mono ?_); rw [HM.out]; rintro E w5 ⟨rfl, hs5⟩; have hc5 := lettered_chg hs5; have z5 := hc5.size; have R10_w5 : Row w5 (w.heap.size + 1) #[.int .i64 ox, .int .i64 oy] := R10_w1.chg hc5 (by have := HLS.out; simp; omega); have c10_0 : w5.cell? ⟨w.heap.size + 1, 0, none⟩ = some (.int .i64 ox) := R10_w5.cell 0 rfl; have c10_1 : w5.cell? ⟨w.heap.size + 1, 1, none⟩ = some (.int .i64 oy) := R10_w5.cell 1 rfl; have l10 := R10_w5.lt; have hqb : w5.cell? ⟨gb, ob + k, none⟩ = some (.int .u8 b) := (hc5.cells.1 gb _ HBL1.out HBN.out).trans HCB1.out; have lgb5 : gb < w5.heap.size := Nat.lt_of_lt_of_le HBL1.out hc5.size; have HS5 := Lib.hid hs5; (try (have HS5b := Lib.hid (show Lettered w1 s m C F FM dk n vl rv l (T1 n mx mz) (its ++ ri) w5 from hs5))); clear hs5 hc5)))
          go_ret
          refine ⟨?_, Lettered.of_up HU1.out (show Lettered w1 s m C F FM dk n vl rv l (T1 n (spR C F FM dk (ax, ay) (ox, oy) letter (x, y) bs).2.1.1 (spR C F FM dk (ax, ay) (ox, oy) letter (x, y) bs).2.1.2) (spR C F FM dk (ax, ay) (ox, oy) letter (x, y) bs).2.2 _ from ?_)⟩
          · rw [HEQ.out, HD.out, spR_b (q := (qx, qy)) (a := (ax, ay)) (o := (ox, oy)) (letter := letter) HL.out rfl HM.out HME.out]; rfl
          · rw [HEQ.out, HD.out, spR_b (q := (qx, qy)) (a := (ax, ay)) (o := (ox, oy)) (letter := letter) HL.out rfl HM.out HME.out]; exact (by have h1 := HS5.out; rw [if_neg HME.out] at h1; exact h1)
        · have HME := Lib.hid hme
          subst hme
          by_cases hbl : b = letter
          rotate_left
          · have t3 : (b == letter) = false := by simpa using hbl
            have HBL := Lib.hid hbl
            clear hbl
            go_wp2_with (first
              | (go_at_call 8; ((with_reducible refine (rlet_from s m C F FM dk n vl rv l qx qy its _ _ 1 [b] rfl HSR.out (ints_one HBG.out HCB.out HWB.out (by omega) (by omega)) (by decide) (by have := HIL.out; omega)).mono ?_); rw [HL.out]; rintro E w4 ⟨rfl, hs4⟩; have hc4 := lettered_chg hs4; have z4 := hc4.size; have R9_w4 : Row w4 w.heap.size #[.int .i64 ax, .int .i64 ay] := R9_w1.chg hc4 (by have := HLS.out; simp; omega); have c9_0 : w4.cell? ⟨w.heap.size, 0, none⟩ = some (.int .i64 ax) := R9_w4.cell 0 rfl; have c9_1 : w4.cell? ⟨w.heap.size, 1, none⟩ = some (.int .i64 ay) := R9_w4.cell 1 rfl; have l9 := R9_w4.lt; have HS4 := Lib.hid hs4; clear hs4 hc4))
              | (go_at_call 39; ((with_reducible refine (ron_from s m C F FM dk n vl rv l rx ry ax ay _ HS4.out).mono ?_); rw [HM.out]; rintro E w5 ⟨rfl, hs5⟩; have hc5 := lettered_chg hs5; have z5 := hc5.size; have R10_w5 : Row w5 (w.heap.size + 1) #[.int .i64 ox, .int .i64 oy] := R10_w1.chg hc5 (by have := HLS.out; simp; omega); have c10_0 : w5.cell? ⟨w.heap.size + 1, 0, none⟩ = some (.int .i64 ox) := R10_w5.cell 0 rfl; have c10_1 : w5.cell? ⟨w.heap.size + 1, 1, none⟩ = some (.int .i64 oy) := R10_w5.cell 1 rfl; have l10 := R10_w5.lt; have hqb : w5.cell? ⟨gb, ob + k, none⟩ = some (.int .u8 b) := (hc5.cells.1 gb _ HBL1.out HBN.out).trans HCB1.out; have lgb5 : gb < w5.heap.size := Nat.lt_of_lt_of_le HBL1.out hc5.size; have HS5 := Lib.hid hs5; (try (have HS5b := Lib.hid (show Lettered w1 s m C F FM dk n vl rv l (T1 n mx mz) (its ++ ri) w5 from hs5))); clear hs5 hc5)))
            go_roundw
            case rel => exact ⟨k + 1, mx, mz, its ++ ri, by omega, by go_num, Lib.hid (show Lettered w1 s m C F FM dk n vl rv l (T1 n mx mz) (its ++ ri) _ from HS5.out), Lib.hid HF1.out, Lib.hid (by rw [List.length_append]; have h1 := HIL.out; have h2 := HRL.out; omega), Lib.hid (by rw [HEQ.out, HD.out, spR_c (q := (qx, qy)) (a := (ax, ay)) (o := (ox, oy)) (letter := letter) HL.out rfl HM.out rfl HBL.out]; simp only [List.append_assoc])⟩
            case measure => simp [intOf]; omega
          · have t3 : (b == letter) = true := by simpa using hbl
            have HBL := Lib.hid hbl
            clear hbl
            by_cases hke : ke = 0
            rotate_left
            · have t4 : (ke == 0) = false := by simpa using hke
              have HKE := Lib.hid hke
              clear hke
              go_wp2_with (first
                | (go_at_call 8; ((with_reducible refine (rlet_from s m C F FM dk n vl rv l qx qy its _ _ 1 [b] rfl HSR.out (ints_one HBG.out HCB.out HWB.out (by omega) (by omega)) (by decide) (by have := HIL.out; omega)).mono ?_); rw [HL.out]; rintro E w4 ⟨rfl, hs4⟩; have hc4 := lettered_chg hs4; have z4 := hc4.size; have R9_w4 : Row w4 w.heap.size #[.int .i64 ax, .int .i64 ay] := R9_w1.chg hc4 (by have := HLS.out; simp; omega); have c9_0 : w4.cell? ⟨w.heap.size, 0, none⟩ = some (.int .i64 ax) := R9_w4.cell 0 rfl; have c9_1 : w4.cell? ⟨w.heap.size, 1, none⟩ = some (.int .i64 ay) := R9_w4.cell 1 rfl; have l9 := R9_w4.lt; have HS4 := Lib.hid hs4; clear hs4 hc4))
                | (go_at_call 39; ((with_reducible refine (ron_from s m C F FM dk n vl rv l rx ry ax ay _ HS4.out).mono ?_); rw [HM.out]; rintro E w5 ⟨rfl, hs5⟩; have hc5 := lettered_chg hs5; have z5 := hc5.size; have R10_w5 : Row w5 (w.heap.size + 1) #[.int .i64 ox, .int .i64 oy] := R10_w1.chg hc5 (by have := HLS.out; simp; omega); have c10_0 : w5.cell? ⟨w.heap.size + 1, 0, none⟩ = some (.int .i64 ox) := R10_w5.cell 0 rfl; have c10_1 : w5.cell? ⟨w.heap.size + 1, 1, none⟩ = some (.int .i64 oy) := R10_w5.cell 1 rfl; have l10 := R10_w5.lt; have hqb : w5.cell? ⟨gb, ob + k, none⟩ = some (.int .u8 b) := (hc5.cells.1 gb _ HBL1.out HBN.out).trans HCB1.out; have lgb5 : gb < w5.heap.size := Nat.lt_of_lt_of_le HBL1.out hc5.size; have HS5 := Lib.hid hs5; (try (have HS5b := Lib.hid (show Lettered w1 s m C F FM dk n vl rv l (T1 n mx mz) (its ++ ri) w5 from hs5))); clear hs5 hc5))
                | (go_at_call 39; ((with_reducible refine (ron_from s m C F FM dk n vl rv l mx mz ox oy _ HS5b.out).mono ?_); rw [HK.out]; rintro E w6 ⟨rfl, hs6⟩; have HS6 := Lib.hid hs6; clear hs6)))
              go_ret
              refine ⟨?_, Lettered.of_up HU1.out (show Lettered w1 s m C F FM dk n vl rv l (T1 n (spR C F FM dk (ax, ay) (ox, oy) letter (x, y) bs).2.1.1 (spR C F FM dk (ax, ay) (ox, oy) letter (x, y) bs).2.1.2) (spR C F FM dk (ax, ay) (ox, oy) letter (x, y) bs).2.2 _ from ?_)⟩
              · rw [HEQ.out, HD.out, spR_d (q := (qx, qy)) (a := (ax, ay)) (o := (ox, oy)) (letter := letter) HL.out rfl HM.out rfl HBL.out HK.out HKE.out]; rfl
              · rw [HEQ.out, HD.out, spR_d (q := (qx, qy)) (a := (ax, ay)) (o := (ox, oy)) (letter := letter) HL.out rfl HM.out rfl HBL.out HK.out HKE.out]; exact (by have h1 := HS6.out; rw [if_neg HKE.out] at h1; exact h1)
            · have HKE := Lib.hid hke
              subst hke
              go_wp2_with (first
                | (go_at_call 8; ((with_reducible refine (rlet_from s m C F FM dk n vl rv l qx qy its _ _ 1 [b] rfl HSR.out (ints_one HBG.out HCB.out HWB.out (by omega) (by omega)) (by decide) (by have := HIL.out; omega)).mono ?_); rw [HL.out]; rintro E w4 ⟨rfl, hs4⟩; have hc4 := lettered_chg hs4; have z4 := hc4.size; have R9_w4 : Row w4 w.heap.size #[.int .i64 ax, .int .i64 ay] := R9_w1.chg hc4 (by have := HLS.out; simp; omega); have c9_0 : w4.cell? ⟨w.heap.size, 0, none⟩ = some (.int .i64 ax) := R9_w4.cell 0 rfl; have c9_1 : w4.cell? ⟨w.heap.size, 1, none⟩ = some (.int .i64 ay) := R9_w4.cell 1 rfl; have l9 := R9_w4.lt; have HS4 := Lib.hid hs4; clear hs4 hc4))
                | (go_at_call 39; ((with_reducible refine (ron_from s m C F FM dk n vl rv l rx ry ax ay _ HS4.out).mono ?_); rw [HM.out]; rintro E w5 ⟨rfl, hs5⟩; have hc5 := lettered_chg hs5; have z5 := hc5.size; have R10_w5 : Row w5 (w.heap.size + 1) #[.int .i64 ox, .int .i64 oy] := R10_w1.chg hc5 (by have := HLS.out; simp; omega); have c10_0 : w5.cell? ⟨w.heap.size + 1, 0, none⟩ = some (.int .i64 ox) := R10_w5.cell 0 rfl; have c10_1 : w5.cell? ⟨w.heap.size + 1, 1, none⟩ = some (.int .i64 oy) := R10_w5.cell 1 rfl; have l10 := R10_w5.lt; have hqb : w5.cell? ⟨gb, ob + k, none⟩ = some (.int .u8 b) := (hc5.cells.1 gb _ HBL1.out HBN.out).trans HCB1.out; have lgb5 : gb < w5.heap.size := Nat.lt_of_lt_of_le HBL1.out hc5.size; have HS5 := Lib.hid hs5; (try (have HS5b := Lib.hid (show Lettered w1 s m C F FM dk n vl rv l (T1 n mx mz) (its ++ ri) w5 from hs5))); clear hs5 hc5))
                | (go_at_call 39; ((with_reducible refine (ron_from s m C F FM dk n vl rv l mx mz ox oy _ HS5b.out).mono ?_); rw [HK.out]; rintro E w6 ⟨rfl, hs6⟩; have HS6 := Lib.hid hs6; clear hs6)))
              go_roundw
              case rel => exact ⟨k + 1, kx, kz, its ++ ri, by omega, by go_num, Lib.hid (show Lettered w1 s m C F FM dk n vl rv l (T1 n kx kz) (its ++ ri) _ from HS6.out), Lib.hid HF2.out, Lib.hid (by rw [List.length_append]; have h1 := HIL.out; have h2 := HRL.out; omega), Lib.hid (by rw [HEQ.out, HD.out, spR_e (q := (qx, qy)) (a := (ax, ay)) (o := (ox, oy)) (letter := letter) HL.out rfl HM.out rfl HBL.out HK.out rfl]; simp only [List.append_assoc])⟩
              case measure => simp [intOf]; omega
    · obtain rfl : k = N := by omega
      have HD0 := Lib.hid (show bs.drop k = [] from List.drop_eq_nil_of_le (by have := HN.out; omega))
      go_wp2
      go_ret
      refine ⟨?_, Lettered.of_up HU1.out (show Lettered w1 s m C F FM dk n vl rv l (T1 n (spR C F FM dk (ax, ay) (ox, oy) letter (x, y) bs).2.1.1 (spR C F FM dk (ax, ay) (ox, oy) letter (x, y) bs).2.1.2) (spR C F FM dk (ax, ay) (ox, oy) letter (x, y) bs).2.2 _ from ?_)⟩
      · rw [HEQ.out, HD0.out]; rfl
      · rw [HEQ.out, HD0.out]
        show Lettered w1 s m C F FM dk n vl rv l (T1 n qx qy) (its ++ []) _
        rw [List.append_nil]
        exact HSR.out

end Go.Proofs.YtjdbefpfjhdmoaaGreatDoor.Sh
end

section
namespace Go.Proofs.YtjdbefpfjhdmoaaGreatDoor.Sh
open Go.Proofs.YtjdbefpfjhdmoaaGreatDoor.ZGI
open Go.ChangeShapes Go.WideShapes Go.ChangeAt Go.RowKit
open Go.Proofs.YtjdbefpfjhdmoaaGreatDoor.Gs
open Go.Proofs.YtjdbefpfjhdmoaaGreatDoor.MatM (M6)
open Go.Proofs.YtjdbefpfjhdmoaaGreatDoor.PathM
set_option linter.unusedVariables false
set_option linter.unusedSimpArgs false

set_option maxRecDepth 8000 in
theorem rspaced_nofont (s m : Nat) (C : M6) (F : Int) (FM : M6) (dk : Bool) (n : Int) (vl rv : Value) (T : St) (l : List Cl) (ax ay ox oy letter : Int) (vb : Value) (w : World) (h : Ref w s m C F FM dk n vl rv T l) (hF : decide (F < 0) = true) :
    Calls Tryz.prog 11 #[.pointer (some ⟨m, 0, none⟩), .pointer (some ⟨s, 0, none⟩), vb, .agg #[.int .i64 ax, .int .i64 ay], .agg #[.int .i64 ox, .int .i64 oy], .int .i64 letter] w fun E w' => E = .returned (.int .i64 7) ∧ Up w w' := by
  have q17 : w.cell? ⟨s, 17, none⟩ = some (.int .i64 F) := h.rs.cell 17 rfl
  have ls := h.rs.lt
  have ls1 : s < w.heap.size + 1 := Nat.lt_succ_of_lt ls
  have ls2 : s < w.heap.size + 1 + 1 := Nat.lt_succ_of_lt ls1
  clear h
  go_enter Tryz.func11, Tryz.ntmps11
  go_wp2
  go_ret
  exact ⟨rfl, by exact ua⟩
set_option maxRecDepth 8000 in
theorem rspaced_noplace (s m : Nat) (C : M6) (F : Int) (FM : M6) (dk : Bool) (n : Int) (vl rv : Value) (l : List Cl) (ax ay ox oy letter : Int) (vb : Value) (w : World) (h : Ref w s m C F FM dk n vl rv ⟨n, [], Z, Z⟩ l) (hF : decide (F < 0) = false) :
    Calls Tryz.prog 11 #[.pointer (some ⟨m, 0, none⟩), .pointer (some ⟨s, 0, none⟩), vb, .agg #[.int .i64 ax, .int .i64 ay], .agg #[.int .i64 ox, .int .i64 oy], .int .i64 letter] w fun E w' => E = .returned (.int .i64 10) ∧ Up w w' := by
  have q17 : w.cell? ⟨s, 17, none⟩ = some (.int .i64 F) := h.rs.cell 17 rfl
  have ls := h.rs.lt
  have ls1 : s < w.heap.size + 1 := Nat.lt_succ_of_lt ls
  have ls2 : s < w.heap.size + 1 + 1 := Nat.lt_succ_of_lt ls1
  obtain ⟨a, c, rfl⟩ := Path.Segs.val h.sg
  have HQ := Lib.hid (show ∀ W, Up w W → W.cell? ⟨s, 27, none⟩ = some (.slice a 0 c) from fun W hu => (h.rs.up hu).cell 27 rfl)
  clear h
  go_enter Tryz.func11, Tryz.ntmps11
  go_wp2_with (go_at_call 29; ((with_reducible refine (Path.rcurs_empty s a c _ (by first | assumption | (simp; omega)) (HQ.out _ (by exact ua))).mono ?_); rintro E w1 ⟨rfl, hu1⟩))
  go_ret
  exact ⟨rfl, by exact ua⟩

end Go.Proofs.YtjdbefpfjhdmoaaGreatDoor.Sh
end

section
namespace Go.Proofs.YtjdbefpfjhdmoaaGreatDoor.Sh
open Go.ChangeShapes Go.WideShapes Go.ChangeAt Go.RowKit
open Go.Proofs.YtjdbefpfjhdmoaaGreatDoor.Gs
open Go.Proofs.YtjdbefpfjhdmoaaGreatDoor.FixM (fits)
open Go.Proofs.YtjdbefpfjhdmoaaGreatDoor.MatM (M6)
open Go.Proofs.YtjdbefpfjhdmoaaGreatDoor.PathM
set_option linter.unusedVariables false
set_option linter.unusedSimpArgs false

theorem spR_its (C : M6) (F : Int) (FM : M6) (dk : Bool) (a o : Int × Int) (letter : Int) : ∀ (bs : List Int) (q : Int × Int), (spR C F FM dk a o letter q bs).2.2.length ≤ bs.length ∧ ∀ i ∈ (spR C F FM dk a o letter q bs).2.2, i.bs.length ≤ 1
  | [], q => by simp [spR]
  | b :: bs, q => by
    obtain ⟨h1, h2⟩ := let_its C F FM dk q.1 q.2 [b]
    have h3 : ∀ i ∈ (letR C F FM dk q.1 q.2 [b]).2.2, i.bs.length ≤ 1 := fun i hi => by rw [h2 i hi]; simp
    rw [spR]
    split
    · simp
    · split
      · exact ⟨by simp only [List.length_cons]; omega, h3⟩
      · split
        · split
          · exact ⟨by simp only [List.length_cons]; omega, h3⟩
          · exact ⟨by simp only [List.length_append, List.length_cons]; have := (spR_its C F FM dk a o letter bs (movedR C (movedR C (letR C F FM dk q.1 q.2 [b]).2.1.1 (letR C F FM dk q.1 q.2 [b]).2.1.2 a.1 a.2).1.1 (movedR C (letR C F FM dk q.1 q.2 [b]).2.1.1 (letR C F FM dk q.1 q.2 [b]).2.1.2 a.1 a.2).1.2 o.1 o.2).1).1; omega, fun i hi => (List.mem_append.1 hi).elim (h3 i) ((spR_its C F FM dk a o letter bs _).2 i)⟩
        · exact ⟨by simp only [List.length_append, List.length_cons]; have := (spR_its C F FM dk a o letter bs (movedR C (letR C F FM dk q.1 q.2 [b]).2.1.1 (letR C F FM dk q.1 q.2 [b]).2.1.2 a.1 a.2).1).1; omega, fun i hi => (List.mem_append.1 hi).elim (h3 i) ((spR_its C F FM dk a o letter bs _).2 i)⟩
theorem spO_its (C : M6) (F : Int) (FM : M6) (dk : Bool) (a o : Int × Int) (letter : Int) (q : Option (Int × Int)) (bs : List Int) : (spO C F FM dk a o letter q bs).2.2.length ≤ bs.length ∧ ∀ i ∈ (spO C F FM dk a o letter q bs).2.2, i.bs.length ≤ 1 := by
  cases q with
  | none => simp [spO]
  | some q =>
    unfold spO
    simp only
    split
    · simp
    · exact spR_its C F FM dk a o letter bs q
theorem rspaced_any (w0 w : World) (g p c s m : Nat) (C : M6) (F : Int) (FM : M6) (dk : Bool) (n : Int) (pv v vl rv : Value) (q : Option (Int × Int)) (T : St) (l1 l2 : List Cl) (ax ay ox oy letter : Int) (h : Two w0 w g p c s m C F FM dk n pv v vl rv T (TO n q) l1 l2) (hq : fitsO q)
    (ba : Option Addr) (bc N : Nat) (bs : List Int) (hN : bs.length = N) (hv : Ints .u8 w (.slice ba N bc) bs) (hl : N ≤ 300) (hln : l2.length ≤ 100) (hbo : 0 < N → ∀ b ∈ own (.slice ba N bc), b ∉ [s, m]) :
    Calls Tryz.prog 11 #[.pointer (some ⟨m, 0, none⟩), .pointer (some ⟨s, 0, none⟩), .slice ba N bc, .agg #[.int .i64 ax, .int .i64 ay], .agg #[.int .i64 ox, .int .i64 oy], .int .i64 letter] w fun E w' =>
      E = .returned (.int .i64 (spO C F FM dk (ax, ay) (ox, oy) letter q bs).1) ∧ ∃ vl' rv' l2', Two w0 w' g p c s m C F FM dk n pv v vl' rv' T (TO n (spO C F FM dk (ax, ay) (ox, oy) letter q bs).2.1) l1 l2' ∧ l2'.map (·.it) = l2.map (·.it) ++ (spO C F FM dk (ax, ay) (ox, oy) letter q bs).2.2 := by
  by_cases hF : F < 0
  · refine (rspaced_nofont s m C F FM dk n vl rv _ l2 ax ay ox oy letter _ w h.ref (decide_eq_true hF)).mono ?_
    rintro E w' ⟨rfl, hu⟩
    have e : spO C F FM dk (ax, ay) (ox, oy) letter q bs = (7, q, []) := by
      cases q with
      | none => unfold spO; simp only; rw [if_pos hF]
      | some q => unfold spO; simp only; rw [if_pos hF]
    rw [e]
    exact ⟨rfl, vl, rv, l2, h.chg hu, by simp⟩
  · cases q with
    | none =>
      refine (rspaced_noplace s m C F FM dk n vl rv l2 ax ay ox oy letter _ w h.ref (decide_eq_false hF)).mono ?_
      rintro E w' ⟨rfl, hu⟩
      have e : spO C F FM dk (ax, ay) (ox, oy) letter none bs = (10, none, []) := by unfold spO; simp only; rw [if_neg hF]
      rw [e]
      exact ⟨rfl, vl, rv, l2, h.chg hu, by simp⟩
    | some q =>
      have e : spO C F FM dk (ax, ay) (ox, oy) letter (some q) bs = ((spR C F FM dk (ax, ay) (ox, oy) letter q bs).1, some (spR C F FM dk (ax, ay) (ox, oy) letter q bs).2.1, (spR C F FM dk (ax, ay) (ox, oy) letter q bs).2.2) := by unfold spO; simp only; rw [if_neg hF]
      rw [e]
      refine (rspaced_calls s m C F FM dk n vl rv l2 q.1 q.2 ax ay ox oy letter ba bc N bs hN w h.ref hq hv hl hln (decide_eq_false hF) hbo).mono ?_
      rintro E w' ⟨rfl, hs⟩
      exact ⟨rfl, h.lettered hs⟩

end Go.Proofs.YtjdbefpfjhdmoaaGreatDoor.Sh
end

section
namespace Go.Proofs.YtjdbefpfjhdmoaaGreatDoor.showSpaced
open List renaming getElem_toArray → lga, getElem_cons_zero → lgz, getElem_cons_succ → lgs, setIfInBounds_toArray → lsa, set_cons_zero → lsz, set_cons_succ → lss
open Go.Proofs.YtjdbefpfjhdmoaaGreatDoor.ZGI
open Go.ChangeShapes Go.WideShapes Go.ChangeAt Go.RowKit
open Go.Proofs.YtjdbefpfjhdmoaaGreatDoor.Gs Go.Proofs.YtjdbefpfjhdmoaaGreatDoor.Sh Go.Proofs.YtjdbefpfjhdmoaaGreatDoor.Font Go.Proofs.YtjdbefpfjhdmoaaGreatDoor.showLetters
open Go.Proofs.YtjdbefpfjhdmoaaGreatDoor.FixM (fits)
open Go.Proofs.YtjdbefpfjhdmoaaGreatDoor.MatM (M6)
set_option linter.unusedVariables false
set_option linter.unusedSimpArgs false

theorem its_len {l : List Cl} {b : List It} (h : l.map (·.it) = ([] : List Cl).map (·.it) ++ b) : l.length = b.length := by
  have := congrArg List.length h
  simpa using this
theorem its_bs0 {l : List Cl} {b : List It} {q : Nat} (h : l.map (·.it) = ([] : List Cl).map (·.it) ++ b) (hb : ∀ i ∈ b, i.bs.length ≤ q) : ∀ k ∈ l, k.it.bs.length ≤ q := fun k hk => by
  have h1 : k.it ∈ ([] : List Cl).map (·.it) ++ b := h ▸ List.mem_map_of_mem hk
  simp only [List.map_nil, List.nil_append] at h1
  exact hb _ h1
theorem row_off {k : IntKind} {w : World} {a : Option Addr} {len cap : Nat} {z : List Int} (h : IsRow k w a len cap z) {n s m : Nat} (hn : n = len) (hs : w.heap.size ≤ s) (hm : w.heap.size ≤ m) : 0 < n → ∀ b ∈ own (.slice a len cap), b ∉ [s, m] := fun h0 b hb => by
  have hlc : len ≤ cap := by
    rcases h with ⟨_, h1, _, _⟩ | ⟨x, _, h1, _⟩
    · omega
    · exact h1
  obtain ⟨b', o', rfl, _, _, _, _, _, hlt⟩ := h.at (by omega)
  have := own_of hb
  simp only [Value.ownBlock, Option.some.injEq] at this
  simp
  omega
set_option maxRecDepth 8000 in
theorem walk_far (ct fx : M6) (ft x y : Int) (pl dk : Bool) (sg : Int) (hsg : 0 ≤ sg) (a : Option Addr) (len cap : Nat) (z : List Int) (ax ay ox oy letter : Int) {w : World} (hz : IsRow .u8 w a len cap z) (hT : Font.Tab w) (h3 : ¬ len ≤ 300) :
    Calls Tryz.prog 4 #[.agg #[.int .i64 ct.a, .int .i64 ct.b, .int .i64 ct.c, .int .i64 ct.d, .int .i64 ct.x, .int .i64 ct.y, .int .i64 fx.a, .int .i64 fx.b, .int .i64 fx.c, .int .i64 fx.d, .int .i64 fx.x, .int .i64 fx.y, .int .i64 ft, .int .i64 x, .int .i64 y, .bool pl, .bool dk, .int .u8 sg], .slice a len cap, .agg #[.int .i64 ax, .int .i64 ay], .agg #[.int .i64 ox, .int .i64 oy], .int .i64 letter] w fun e w' => e = .returned (.bool true) ∧ Up w w' := by
  have t0 : decide ((300 : Int) < (len : Int)) = true := decide_eq_true (by omega)
  have HT := Lib.hid hT
  clear hz hT
  go_enter Tryz.func4, Tryz.ntmps4
  go_wp2_with (go_at_call 5; ((with_reducible refine (answers_calls _ (HT.out.up (by exact ua))).mono ?_); rintro E w1 ⟨rfl, hu1⟩))
  go_ret
  exact ⟨rfl, by exact ua⟩

set_option maxRecDepth 8000 in
set_option maxHeartbeats 8000000 in
theorem walk_near (ct fx : M6) (ft x y : Int) (pl dk : Bool) (sg : Int) (hsg : 0 ≤ sg) (a : Option Addr) (len cap : Nat) (z : List Int) (ax ay ox oy letter : Int) {w : World} (hz : IsRow .u8 w a len cap z) (hT : Font.Tab w) (h3 : len ≤ 300) :
    Calls Tryz.prog 4 #[.agg #[.int .i64 ct.a, .int .i64 ct.b, .int .i64 ct.c, .int .i64 ct.d, .int .i64 ct.x, .int .i64 ct.y, .int .i64 fx.a, .int .i64 fx.b, .int .i64 fx.c, .int .i64 fx.d, .int .i64 fx.x, .int .i64 fx.y, .int .i64 ft, .int .i64 x, .int .i64 y, .bool pl, .bool dk, .int .u8 sg], .slice a len cap, .agg #[.int .i64 ax, .int .i64 ay], .agg #[.int .i64 ox, .int .i64 oy], .int .i64 letter] w fun e w' => e = .returned (.bool true) ∧ Up w w' := by
  obtain ⟨i0, hi, hz0, hz1, hz2'⟩ := info_parts info5
  have t0 : decide ((300 : Int) < (len : Int)) = false := decide_eq_false (by omega)
  have HT := Lib.hid hT
  have HZ := Lib.hid hz
  have HWZ := Lib.hid hz.ints.wf
  have HLNZ := Lib.hid (show (z.take len).length = len from ints_len hz.ints)
  have hcap := hz.le
  clear hz hT
  obtain ⟨n, hn⟩ : ∃ n, sg % 10 + 1 = n := ⟨_, rfl⟩
  go_enter Tryz.func4, Tryz.ntmps4
  go_wp2_with (first
    | ((refine showLetters.at_op (.load 26 (.tmp 5)) rfl ?_); refine wpList_load_Row rfl 26 (.tmp 5) rfl w.heap.size rfl #[.int .i64 ct.a, .int .i64 ct.b, .int .i64 ct.c, .int .i64 ct.d, .int .i64 ct.x, .int .i64 ct.y, .int .i64 fx.a, .int .i64 fx.b, .int .i64 fx.c, .int .i64 fx.d, .int .i64 fx.x, .int .i64 fx.y, .int .i64 ft, .int .i64 x, .int .i64 y, .bool pl, .bool dk, .int .u8 sg] _ (by exact ra) Tryz.underlying26 rfl infoSet rfl ?_)
    | (go_at_call 6; ((with_reducible refine (open_callsX ct fx ft x y pl dk sg n hsg hn _ (HT.out.up (by exact ua))).mono ?_); rintro E w1 ⟨g, p, c, pv, v, C, F, FM, T, hC, hF, hFM, hTT, rfl, hg1, hp1, hc1, hs1, hu1, hL1⟩; (obtain ⟨q, rfl, hq⟩ := to_of (by omega) hTT); (obtain ⟨va, vc, rfl⟩ := Path.Segs.val hs1); have HCW := Lib.hid (ctm_wf hC); have HF1 := Lib.hid (font_lt hF); have HFQ := Lib.hid hq; have HG1 := Lib.hid hg1; have HP1 := Lib.hid hp1; have HC1 := Lib.hid hc1; have HS1 := Lib.hid hs1; have HL1 := Lib.hid hL1; clear hC hF hFM hTT hg1 hp1 hc1 hs1 hL1 hq; have z1 := hu1.size; (try simp at z1)))
    | ((refine showLetters.at_op (.store 42 (.tmp 13) _) rfl ?_); (refine wpList_store_Row rfl 42 (.tmp 13) _ rfl w1.heap.size (rsC C F FM dk n (.slice va (TO n q).l.length vc)) rfl rfl #[.int .i64 0, .int .i64 0, .int .i64 0, .int .i64 0, .int .i64 0, .int .i64 0, .int .i64 0, .int .i64 0, .int .i64 0, .int .i64 0, .int .i64 0, .int .i64 0, .int .i64 0, .int .i64 0, .int .i64 0, .slice none 0 0, .int .i64 0, .int .i64 0, .int .i64 0, .int .i64 0, .int .i64 0, .int .i64 0, .int .i64 0, .int .i64 0, .slice none 0 0, .bool false, .int .i64 0, .slice none 0 0] (by exact ra) infoRs rfl rfl (by simp [rsC, Value.oneCell']) ?_); intro w2 hr2 hc2; have z2 := hc2.size; (try simp at z2))
    | ((refine showLetters.at_op (.store 48 (.tmp 14) _) rfl ?_); (refine wpList_store_Row rfl 48 (.tmp 14) _ rfl (w1.heap.size + 1) #[.int .i64 6553600, .int .i64 6553600, .slice none 0 0, .int .i64 2, .slice none 0 0] rfl rfl #[.int .i64 0, .int .i64 0, .slice none 0 0, .int .i64 0, .slice none 0 0] (by exact ra) infoCv rfl rfl (by simp [Value.oneCell']) ?_); intro w3 hr3 hc3; have z3 := hc3.size; (try simp at z3); have HT3 := Lib.hid (Two.first (s := w1.heap.size) (m := w1.heap.size + 1) HG1.out HP1.out HC1.out HS1.out HL1.out hu1 (show Up w1 w3 from (show Chg [] w1 w3 by (repeat' (first | (with_reducible first | exact Chg.refl _ _ | assumption | refine Chg.alloc ?_ _ | refine Chg.drew ?_ | refine Chg.drewN ?_ _ | refine Chg.setCell ?_ ?_ _ | refine Chg.upc ?_ (by assumption) | refine Chg.call ?_ (by assumption) ?_) | (refine Or.inl ?_; (simp; done)) | (simp; done) | (simp; omega) | omega))).up) (Nat.le_refl _) (Nat.le_succ _) (by omega) (hr2.chg hc3 (by simp)) hr3); have u3 : Up w w3 := Up.call (by exact ua) HT3.out.up; have lz3 := u3.size; have ra3 : Row w3 (w.heap.size + 1) #[.int .i64 ax, .int .i64 ay] := Row.up (show Row _ (w.heap.size + 1) #[.int .i64 ax, .int .i64 ay] by exact ra) HT3.out.up; have rb3 : Row w3 (w.heap.size + 1 + 1) #[.int .i64 ox, .int .i64 oy] := Row.up (show Row _ (w.heap.size + 1 + 1) #[.int .i64 ox, .int .i64 oy] by exact ra) HT3.out.up))
  refine wp_region_held_drew (S := fun w' => w'.cell? ⟨w.heap.size + 1, 0, none⟩ = some (.int .i64 ax) ∧ w'.cell? ⟨w.heap.size + 1, 1, none⟩ = some (.int .i64 ay) ∧ w'.cell? ⟨w.heap.size + 1 + 1, 0, none⟩ = some (.int .i64 ox) ∧ w'.cell? ⟨w.heap.size + 1 + 1, 1, none⟩ = some (.int .i64 oy)) (by kernel_rfl) ?_ (fun hHeld => ?_)
  · exact s4_of (show Row _ (w.heap.size + 1) #[.int .i64 ax, .int .i64 ay] from (by exact ra)) (show Row _ (w.heap.size + 1 + 1) #[.int .i64 ox, .int .i64 oy] from (by exact ra))
  refine wpAnyH_take (i := 0) (v := ?_) rfl (by kernel_rfl) (by kernel_rfl) (by kernel_rfl) (fun _ _ _ h => h) (Or.inl ⟨by rfl, ?_⟩) (by assumption) ?_
  rotate_left
  · intro w2 hSw
    (try dsimp only at hSw)
    (try (obtain ⟨s0, s1, s2, s3⟩ := hSw))
    go_simp
    (try (with_reducible rfl))
  (try simp only [Act.put, lga, lgz, lgs, lsa, lsz, lss])
  refine wpAnyH_take (i := 1) (v := ?_) rfl (by kernel_rfl) (by kernel_rfl) (by kernel_rfl) (fun _ _ _ h => h) (Or.inl ⟨by rfl, ?_⟩) (by assumption) ?_
  rotate_left
  · intro w2 hSw
    (try dsimp only at hSw)
    (try (obtain ⟨s0, s1, s2, s3⟩ := hSw))
    go_simp
    (try (with_reducible rfl))
  (try simp only [Act.put, lga, lgz, lgs, lsa, lsz, lss])
  refine wpAnyH_take (i := 3) (v := ?_) rfl (by kernel_rfl) (by kernel_rfl) (by kernel_rfl) (fun _ _ _ h => h) (Or.inl ⟨by rfl, ?_⟩) (by assumption) ?_
  rotate_left
  · intro w2 hSw
    (try dsimp only at hSw)
    (try (obtain ⟨s0, s1, s2, s3⟩ := hSw))
    go_simp
    (try (with_reducible rfl))
  (try simp only [Act.put, lga, lgz, lgs, lsa, lsz, lss])
  refine wpAnyH_take (i := 5) (v := ?_) rfl (by kernel_rfl) (by kernel_rfl) (by kernel_rfl) (fun _ _ _ h => h) (Or.inl ⟨by rfl, ?_⟩) (by assumption) ?_
  rotate_left
  · intro w2 hSw
    (try dsimp only at hSw)
    (try (obtain ⟨s0, s1, s2, s3⟩ := hSw))
    go_simp
    (try (with_reducible rfl))
  (try simp only [Act.put, lga, lgz, lgs, lsa, lsz, lss])
  refine wpAnyH_take (i := 6) (v := ?_) rfl (by kernel_rfl) (by kernel_rfl) (by kernel_rfl) (fun _ _ _ h => h) (Or.inl ⟨by rfl, ?_⟩) (by assumption) ?_
  rotate_left
  · intro w2 hSw
    (try dsimp only at hSw)
    (try (obtain ⟨s0, s1, s2, s3⟩ := hSw))
    go_simp
    (try (with_reducible rfl))
  (try simp only [Act.put, lga, lgz, lgs, lsa, lsz, lss])
  refine wpAnyH_take (i := 7) (v := ?_) rfl (by kernel_rfl) (by kernel_rfl) (by kernel_rfl) (fun _ _ _ h => h) (Or.inl ⟨by rfl, ?_⟩) (by assumption) ?_
  rotate_left
  · intro w2 hSw
    (try dsimp only at hSw)
    (try (obtain ⟨s0, s1, s2, s3⟩ := hSw))
    go_simp
    (try (with_reducible rfl))
  (try simp only [Act.put, lga, lgz, lgs, lsa, lsz, lss])
  refine wpAnyH_ready (rs := [2]) (by decide +kernel) (by simp) ?_
  refine AllReadyH.cons rfl (fun K hK => ?_) (AllReadyH.nil)
  (try simp only [lga, lgz, lgs])
  (go_simp)
  refine hK.out _ _ ?_ (fun hHeld => ?_)
  · exact s4_of (show Row _ (w.heap.size + 1) #[.int .i64 ax, .int .i64 ay] from (by exact ra)) (show Row _ (w.heap.size + 1 + 1) #[.int .i64 ox, .int .i64 oy] from (by exact ra))
  clear hK K
  (try simp only [Act.put, lga, lgz, lgs, lsa, lsz, lss])
  refine wpAnyH_ready (rs := [4]) (by decide +kernel) (by simp) ?_
  refine AllReadyH.cons rfl (fun K hK => ?_) (AllReadyH.nil)
  (try simp only [lga, lgz, lgs])
  (rw [if_pos (by rfl)]; refine wp_append_any rfl (.tmp 30) (.tmp 31) 27 rfl w3.heap.size 5 i0 (.int .u8 0) 1 1 Tryz.underlying27 hi hz0 hz1 hz2' rfl (by decide) (.slice (some ⟨w3.heap.size, 0, none⟩) 0 0) 0 [] rfl (by first | exact ownsRow_empty _ w3.heap.size _ (by first | exact Nat.le_refl _ | (simp; done) | (simp; omega)) | exact raw_upB (ownsRow_empty _ w3.heap.size _ (by first | exact Nat.le_refl _ | (simp; done) | (simp; omega))) (Up.drew (Up.refl _))) a len cap _ rfl HZ.out.newsLen HZ.out.none (HZ.out.news (by exact ua)) (ints_oneCell _ _) (by unfold maxLen; omega) (by omega) (by first | omega | (simp; done) | (simp; omega)) ?_; intro v4 w4 hown hgr; have hu4 : Up w3 w4 := grown_up (show Up w3 _ by exact ua) hgr (fun k0 hk0 => by have h4 : w3.heap.size = k0 := (by injection hk0); omega); have HO4 := Lib.hid (owned_base hown).2; have HI4 : Hid (Ints .u8 w4 v4 (z.take len)) := Lib.hid (owns_ints (by simpa using (owned_base hown).1) HWZ.out); (obtain ⟨a4, c4, e4⟩ := ints_slice HI4.out HLNZ.out); subst e4; have z4 := hu4.size; have HT4 := Lib.hid (HT3.out.chg hu4); have ra4 : Row w4 (w.heap.size + 1) #[.int .i64 ax, .int .i64 ay] := ra3.up hu4; have rb4 : Row w4 (w.heap.size + 1 + 1) #[.int .i64 ox, .int .i64 oy] := rb3.up hu4; have HBO := Lib.hid (show 0 < len → ∀ b ∈ own (.slice a4 len c4), b ∉ p :: c :: (own pv ++ own (.slice none 0 0)) from fun _ b hb => by have h1 := HO4.out b (own_of hb); have h2 := Prg.mut_lt HT3.out.prg b; intro h3; have h4 := h2 (List.mem_cons_of_mem _ h3); omega); clear hown hgr)
  refine hK.out _ _ ?_ (fun hHeld => ?_)
  · exact s4_of ra4 rb4
  clear hK K
  (try simp only [Act.put, lga, lgz, lgs, lsa, lsz, lss])
  refine wpAnyH_ready (rs := [8]) (by decide +kernel) (by simp) ?_
  refine AllReadyH.cons rfl (fun K hK => ?_) (AllReadyH.nil)
  (try simp only [lga, lgz, lgs])
  (go_simp; go_at_call 10; go_loud ((with_reducible refine (spaced_any _ _ g p c w1.heap.size (w1.heap.size + 1) C F FM dk n _ _ _ _ q _ [] [] ax ay ox oy letter HT4.out HFQ.out a4 c4 len (z.take len) HLNZ.out HI4.out (by omega) (by simp) HF1.out HCW.out.1 HCW.out.2 (HT.out.up (by exact ua)) HBO.out).mono ?_); (obtain ⟨K5, hK5⟩ : ∃ K, (spO C F FM dk (ax, ay) (ox, oy) letter q (z.take len)).1 = K := ⟨_, rfl⟩); (obtain ⟨q5, hq5⟩ : ∃ K, (spO C F FM dk (ax, ay) (ox, oy) letter q (z.take len)).2.1 = K := ⟨_, rfl⟩); rw [hK5]; rintro E w5 ⟨rfl, pv5, v5, l5, ht5, hi5⟩; rw [hq5] at ht5; have HK5 := Lib.hid hK5; have HQ5 := Lib.hid hq5; have HT5 := Lib.hid ht5; have HI5L := Lib.hid hi5; have z5 := ht5.up.size; have u5 : Up w w5 := Up.call (by exact ua) ht5.up; have lz5 := u5.size; have ra5 : Row w5 (w.heap.size + 1) #[.int .i64 ax, .int .i64 ay] := Row.up (show Row _ (w.heap.size + 1) #[.int .i64 ax, .int .i64 ay] by exact ra) ht5.up; have rb5 : Row w5 (w.heap.size + 1 + 1) #[.int .i64 ox, .int .i64 oy] := Row.up (show Row _ (w.heap.size + 1 + 1) #[.int .i64 ox, .int .i64 oy] by exact ra) ht5.up; clear hK5 hq5 ht5 hi5; (try dsimp only)))
  refine hK.out _ _ ?_ (fun hHeld => ?_)
  · exact s4_of ra5 rb5
  clear hK K
  (try simp only [Act.put, lga, lgz, lgs, lsa, lsz, lss])
  refine wpAnyH_take (i := 9) (v := ?_) rfl (by kernel_rfl) (by kernel_rfl) (by kernel_rfl) (fun _ _ _ h => h) (Or.inl ⟨by rfl, ?_⟩) (by assumption) ?_
  rotate_left
  · intro w2 hSw
    (try dsimp only at hSw)
    (try (obtain ⟨s0, s1, s2, s3⟩ := hSw))
    go_simp
    (try (with_reducible rfl))
  (try simp only [Act.put, lga, lgz, lgs, lsa, lsz, lss])
  refine wpAnyH_done (by kernel_rfl) ?_ _
  have ca_0 := ra5.cell 0 rfl
  have ca_1 := ra5.cell 1 rfl
  have cb_0 := rb5.cell 0 rfl
  have cb_1 := rb5.cell 1 rfl
  have lla := ra5.lt
  have llb := rb5.lt
  clear hHeld ra3 rb3 ra4 rb4 hr2 hr3 hc2 hc3 hu4
  go_wp2_with (first
    | (go_at_call 11; go_loud ((with_reducible refine (rspaced_any _ _ g p c w1.heap.size (w1.heap.size + 1) C F FM dk n _ _ _ _ q _ l5 [] ax ay ox oy letter HT5.out HFQ.out a cap len (z.take len) HLNZ.out (HZ.out.ints.up u5) (by omega) (by simp) (row_off HZ.out rfl (by omega) (by omega))).mono ?_); rw [HK5.out, HQ5.out]; rintro E w6 ⟨rfl, vl6, rv6, l6, ht6, hi6⟩; (obtain ⟨va6, vc6, rfl⟩ := Path.Segs.val ht6.ref.sg); (obtain ⟨ra6, rc6, rfl⟩ := owned_val ht6.ref.its); have HT6 := Lib.hid ht6; have HI6L := Lib.hid hi6; have z6 := ht6.up.size; have u6 : Up w w6 := Up.call (by exact ua) ht6.up; clear ht6 hi6))
    | (go_at_call 5; go_loud ((with_reducible refine (answers_calls _ (HT.out.up u6)).mono ?_); rintro E w7 ⟨rfl, hu7⟩; have z7 := hu7.size; have HT7 := Lib.hid (HT6.out.chg hu7); have RS7 := HT7.out.ref.rs; have RM7 : Row w7 (w1.heap.size + 1) #[.int .i64 6553600, .int .i64 6553600, .slice ra6 l6.length rc6, .int .i64 2, .slice none 0 0] := HT7.out.ref.rm; have c7_0 : w7.cell? ⟨w1.heap.size + 1, 0, none⟩ = some (.int .i64 6553600) := RM7.cell 0 rfl; have c7_1 : w7.cell? ⟨w1.heap.size + 1, 1, none⟩ = some (.int .i64 6553600) := RM7.cell 1 rfl; have c7_2 : w7.cell? ⟨w1.heap.size + 1, 2, none⟩ = some (.slice ra6 l6.length rc6) := RM7.cell 2 rfl; have c7_3 : w7.cell? ⟨w1.heap.size + 1, 3, none⟩ = some (.int .i64 2) := RM7.cell 3 rfl; have c7_4 : w7.cell? ⟨w1.heap.size + 1, 4, none⟩ = some (.slice none 0 0) := RM7.cell 4 rfl))
    | ((refine showLetters.at_op (.load 42 (.tmp 13)) rfl ?_); refine wpList_load_RowG 42 (.tmp 13) rfl (by rfl) w1.heap.size rfl (rsC C F FM dk n (.slice va6 (TO n q5).l.length vc6)) RS7 _ Tryz.underlying42 rfl infoRs rfl ?_)
    | (go_at_call 9; go_loud ((with_reducible refine (agree_of HT7.out rfl (HI5L.out.trans HI6L.out.symm) (by have h1 := its_len HI6L.out; have h2 := (spO_its C F FM dk (ax, ay) (ox, oy) letter q (z.take len)).1; have h3 := HLNZ.out; omega) (its_bs0 HI5L.out (fun i hi => Nat.le_trans ((spO_its ..).2 i hi) (by decide)))).mono ?_); rintro E w8 ⟨rfl, hu8⟩)))
  go_ret
  exact ⟨rfl, Up.call (Up.call u6 hu7) hu8⟩

end Go.Proofs.YtjdbefpfjhdmoaaGreatDoor.showSpaced
end
