/- Law 16's open. Its condition: the fonts' names lie as they are laid. -/
import Derived.Test.YtjdbefpfjhdmoaaGreatDoorShA
import Derived.Deep.Cut
import Derived.Deep.RegionHeld3
import Derived.Deep.RegionLaw
namespace Go.Proofs.YtjdbefpfjhdmoaaGreatDoor.Sh
open Go.ChangeShapes Go.WideShapes Go.ChangeAt Go.RowKit
open Go.Proofs.YtjdbefpfjhdmoaaGreatDoor.Gs
open Go.Proofs.YtjdbefpfjhdmoaaGreatDoor.FixM (fits)
open Go.Proofs.YtjdbefpfjhdmoaaGreatDoor.MatM (M6)
open Go.Proofs.YtjdbefpfjhdmoaaGreatDoor.PathM
open Go.Proofs.YtjdbefpfjhdmoaaGreatDoor.Path
set_option linter.unusedVariables false
set_option linter.unusedSimpArgs false

/-- where things lie: the states, their path, the canvas, the reference's state and canvas -/
structure Ap (w : World) (g p c s m : Nat) : Prop where
  g0 : w.heap.size + 3 ≤ g
  p0 : w.heap.size + 3 ≤ p
  pg : p ≠ g
  gc : g < c
  pc : p < c
  cs : c < s
  sm : s < m
/-- what lies there -/
structure All (w : World) (g p c s m : Nat) (ct fx : M6) (ft x y : Int) (pl dk : Bool) (sg n : Int) (C : M6) (F : Int) (FM : M6) (D : Bool) (C2 : M6) (F2 : Int) (FM2 : M6) (D2 : Bool) (pv : Value) (t : St) (v : Value) (wx : World) : Prop where
  box : Row wx w.heap.size #[.int .i64 ct.a, .int .i64 ct.b, .int .i64 ct.c, .int .i64 ct.d, .int .i64 ct.x, .int .i64 ct.y, .int .i64 fx.a, .int .i64 fx.b, .int .i64 fx.c, .int .i64 fx.d, .int .i64 fx.x, .int .i64 fx.y, .int .i64 ft, .int .i64 x, .int .i64 y, .bool pl, .bool dk, .int .u8 sg]
  z1 : Row wx (w.heap.size + 1) #[.int .i64 0, .int .i64 0, .int .i64 0, .int .i64 0, .int .i64 0, .int .i64 0, .int .i64 0, .int .i64 0, .int .i64 0, .int .i64 0, .int .i64 0, .int .i64 0, .int .i64 0, .int .i64 0, .int .i64 0, .slice none 0 0, .int .i64 0, .int .i64 0, .int .i64 0, .int .i64 0, .int .i64 0, .int .i64 0, .int .i64 0, .int .i64 0, .slice none 0 0, .bool false, .int .i64 0, .slice none 0 0]
  z2 : Row wx (w.heap.size + 1 + 1) #[.int .i64 0, .int .i64 0, .slice none 0 0, .int .i64 0, .slice none 0 0]
  gs : Row wx g (gsC C 65536 (.slice none 0 0) 0 F FM D p 2 n)
  pt : PathIs wx p pv t
  po : ∀ k, pv.ownBlock = some k → m < k
  cv : Row wx c #[.int .i64 6553600, .int .i64 6553600, .slice none 0 0, .int .i64 2, .slice none 0 0]
  rs : Row wx s (rsC C2 F2 FM2 D2 n v)
  sg : Segs wx v t.l
  so : ∀ k, v.ownBlock = some k → m < k
  rm : Row wx m #[.int .i64 6553600, .int .i64 6553600, .slice none 0 0, .int .i64 2, .slice none 0 0]
  up : Chg [] w wx
  pd : ∀ k, pv.ownBlock = some k → v.ownBlock ≠ some k
theorem Segs.lt {w : World} {v : Value} {l : List Seg} (h : Path.Segs w v l) {g : Nat} (hg : v.ownBlock = some g) : g < w.heap.size := by
  rcases h.form with ⟨rfl, _⟩ | ⟨g', cap, rfl, _, _, hb⟩
  · cases hg
  · simp only [Value.ownBlock, Option.some.injEq] at hg
    omega
/-- where what open makes lies -/
structure Lies (w : World) (g p c : Nat) (pv v : Value) : Prop where
  g0 : w.heap.size ≤ g
  p0 : w.heap.size ≤ p
  pg : p ≠ g
  gc : g < c
  pc : p < c
  po : ∀ k, pv.ownBlock = some k → c < k
  so : ∀ k, v.ownBlock = some k → c < k
  pd : ∀ k, pv.ownBlock = some k → v.ownBlock ≠ some k
section
variable {w : World} {g p c s m : Nat} {ct fx : M6} {ft x y : Int} {pl dk : Bool} {sg n : Int} {C : M6} {F : Int} {FM : M6} {D : Bool} {C2 : M6} {F2 : Int} {FM2 : M6} {D2 : Bool} {pv : Value} {t : St} {v : Value} {wx wy : World}
theorem All.onG (h : All w g p c s m ct fx ft x y pl dk sg n C F FM D C2 F2 FM2 D2 pv t v wx) (a : Ap w g p c s m) {C' : M6} {F' : Int} {FM' : M6} {D' : Bool} (hr : Row wy g (gsC C' 65536 (.slice none 0 0) 0 F' FM' D' p 2 n)) (hc : Chg [g] wx wy) :
    All w g p c s m ct fx ft x y pl dk sg n C' F' FM' D' C2 F2 FM2 D2 pv t v wy := by
  obtain ⟨a1, a2, a3, a4, a5, a6, a7⟩ := a
  exact ⟨h.box.chg hc (by simp; omega), h.z1.chg hc (by simp; omega), h.z2.chg hc (by simp; omega), hr, h.pt.chg hc (by simpa using a3) (fun k hk => by have := h.po k hk; simp; omega), h.po, h.cv.chg hc (by simp; omega), h.rs.chg hc (by simp; omega), h.sg.chg hc (fun k hk => by have := h.so k hk; simp; omega), h.so, h.rm.chg hc (by simp; omega), h.up.call hc (fun k hk => by simp at hk; omega), h.pd⟩
theorem All.onM (h : All w g p c s m ct fx ft x y pl dk sg n C F FM D C2 F2 FM2 D2 (.slice none 0 0) ⟨n, [], Z, Z⟩ (.slice none 0 0) wx) (a : Ap w g p c s m) {t' : St} {wz : World} (hl : Path.Left wx p (.slice none 0 0) t' wy)
    (hm : (t'.l = [⟨1, (x, y), Z, Z⟩] ∧ Moved wy s C2 F2 FM2 D2 n x y wz) ∨ (t'.l = [] ∧ Up wy wz)) :
    ∃ pv v, All w g p c s m ct fx ft x y pl dk sg n C F FM D C2 F2 FM2 D2 pv t' v wz := by
  obtain ⟨a1, a2, a3, a4, a5, a6, a7⟩ := a
  obtain ⟨pv, hp, hc, ho⟩ := hl
  have hc : Chg [p] wx wy := hc
  have hpo : ∀ k, pv.ownBlock = some k → wx.heap.size ≤ k := fun k hk => by
    rcases ho k hk with h1 | h1
    · cases h1
    · exact h1
  have lm := h.rm.lt
  rcases hm with ⟨e, v, hr, hs, hc2, hv⟩ | ⟨e, hu⟩
  · have hpz : PathIs wz p pv t' := hp.chg hc2 (by simp; omega) (fun k hk => by have := hpo k hk; simp; omega)
    have hz := hc.size
    refine ⟨pv, v, (h.box.chg hc (by simp; omega)).chg hc2 (by simp; omega), (h.z1.chg hc (by simp; omega)).chg hc2 (by simp; omega), (h.z2.chg hc (by simp; omega)).chg hc2 (by simp; omega), (h.gs.chg hc (by simpa using a3.symm)).chg hc2 (by simp; omega), hpz, fun k hk => by have := hpo k hk; omega, (h.cv.chg hc (by simp; omega)).chg hc2 (by simp; omega), hr, by rw [e]; exact hs, fun k hk => by have := hv k hk; omega, (h.rm.chg hc (by simp; omega)).chg hc2 (by simp; omega), (h.up.call hc (fun k hk => by simp at hk; omega)).call hc2 (fun k hk => by simp at hk; omega), fun k hk e => by have h1 := hv k e; have h2 := Segs.lt hp.segs hk; omega⟩
  · refine ⟨pv, .slice none 0 0, (h.box.chg hc (by simp; omega)).up hu, (h.z1.chg hc (by simp; omega)).up hu, (h.z2.chg hc (by simp; omega)).up hu, (h.gs.chg hc (by simpa using a3.symm)).up hu, hp.up hu, fun k hk => by have := hpo k hk; omega, (h.cv.chg hc (by simp; omega)).up hu, (h.rs.chg hc (by simp; omega)).up hu, by rw [e]; exact World.ownsRow_nil _ _ _ _, (fun k hk => by cases hk), (h.rm.chg hc (by simp; omega)).up hu, (h.up.call hc (fun k hk => by simp at hk; omega)).upc hu, fun k hk e => by cases e⟩
theorem All.onS (h : All w g p c s m ct fx ft x y pl dk sg n C F FM D C2 F2 FM2 D2 pv t v wx) (a : Ap w g p c s m) {C' : M6} {F' : Int} {FM' : M6} {D' : Bool} (hr : Row wy s (rsC C' F' FM' D' n v)) (hc : Chg [s] wx wy) :
    All w g p c s m ct fx ft x y pl dk sg n C F FM D C' F' FM' D' pv t v wy := by
  obtain ⟨a1, a2, a3, a4, a5, a6, a7⟩ := a
  exact ⟨h.box.chg hc (by simp; omega), h.z1.chg hc (by simp; omega), h.z2.chg hc (by simp; omega), h.gs.chg hc (by simp; omega), h.pt.chg hc (by simp; omega) (fun k hk => by have := h.po k hk; simp; omega), h.po, h.cv.chg hc (by simp; omega), hr, h.sg.chg hc (fun k hk => by have := h.so k hk; simp; omega), h.so, h.rm.chg hc (by simp; omega), h.up.call hc (fun k hk => by simp at hk; omega), h.pd⟩
end

theorem infoCv : (Tryz.prog.info? 48).map (·.size) = some 5 := by kernel_rfl
theorem rng0 {W : World} {b : Nat} {cs : Array Value} (h : Row W b cs) : W.rangeAt b 0 cs.toList := fun j v hj => by
  rw [Nat.zero_add]
  exact h.cell j (by simpa using hj)
theorem wp_store_RowS {o : Oper} {a : Act} {w : World} {K : Act → World → Prop} {Q : Exit → Act → World → Prop} (ty : TypeId) (x y : Operand) (ho : o.op = .store ty x y)
    (g : Nat) (cells : Array Value) (hx : a.eval x = .pointer (some ⟨g, 0, none⟩)) (hy : a.eval y = .agg cells)
    (old : Array Value) (hg : Row w g old) {n : Nat} (hi : (Tryz.prog.info? ty).map (·.size) = some n) (hn : cells.size = n)
    (hold : old.size = n) (h1 : cells.all (·.oneCell') = true)
    (h : ∀ w2, Row w2 g cells → Chg [g] w w2 → K (a.put o.dst undef) w2) : Oper.wp Tryz.prog o a w K Q := by
  obtain ⟨t, hb⟩ := hg
  have hr := run_storeVar_row (P := Tryz.prog) w g t ty old cells hb (by rw [hn]; exact hi) (by rw [hn]; exact hold) h1
  have hk := h (w.setRow g cells) ⟨t, setRow_heap w g old cells t (0, 0) hb⟩ ⟨rfl, rfl, rfl, by simp [World.setRow], fun k hk hns => by
    have hne : ¬ g = k := fun e => hns (by simp [e])
    simp [World.setRow, Array.getElem?_modify, hne]⟩
  unfold Oper.wp execOp
  simp only [ho, hx, hy, Instr.storeAt, Instr.sureAddr, Sem.run_bind, Sem.run_pure, Result.andThen_ok, hr]
  exact hk
theorem results_open (tmps : Array Value) (w : World) (g c b1 b2 : Nat) (cs cs2 : Array Value) (e2 : tmps.getD 2 undef = .pointer (some ⟨g, 0, none⟩)) (e3 : tmps.getD 3 undef = .pointer (some ⟨c, 0, none⟩))
    (e4 : tmps.getD 4 undef = .pointer (some ⟨b1, 0, none⟩)) (e5 : tmps.getD 5 undef = .pointer (some ⟨b2, 0, none⟩)) (h1 : Row w b1 cs) (hs1 : cs.size = 28) (h2 : Row w b2 cs2) (hs2 : cs2.size = 5) :
    (results Tryz.f6 tmps).run Tryz.prog w = .ok (.tuple #[.pointer (some ⟨g, 0, none⟩), .pointer (some ⟨c, 0, none⟩), .agg cs, .agg cs2]) w := by
  rw [Array.getD_eq_getD_getElem?] at e2 e3 e4 e5
  have hl1 := run_loadAt_mid (P := Tryz.prog) w b1 0 42 cs.toList _ (rng0 h1) Tryz.underlying42 rfl (by rw [Array.length_toList, hs1]; exact infoRs)
  have hl2 := run_loadAt_mid (P := Tryz.prog) w b2 0 48 cs2.toList _ (rng0 h2) Tryz.underlying48 rfl (by rw [Array.length_toList, hs2]; exact infoCv)
  simp [results, Tryz.results6, go_sem, e2, e3, e4, e5] at hl1 hl2 ⊢
  simp [hl1, hl2]
theorem matrix_of {ct C : M6} (h : (if chk (lM ct) = 0 then ct else idM) = C) : ((chk (lM ct) == 0) = true → ct = C) ∧ ((chk (lM ct) == 0) = false → idM = C) := by
  constructor
  · intro h1; simp at h1; rw [if_pos h1] at h; exact h
  · intro h1; simp at h1; rw [if_neg h1] at h; exact h
theorem font_of {α : Type} {e : Int} {a b c : α} (h : (if e = 0 then a else b) = c) : ((e == 0) = true → a = c) ∧ ((e == 0) = false → b = c) := by
  constructor
  · intro h1; simp at h1; rw [if_pos h1] at h; exact h
  · intro h1; simp at h1; rw [if_neg h1] at h; exact h
theorem mv_true {n x y : Int} (hn : 1 ≤ n) (hf : fitsP (x, y) = true) : (St.move ⟨n, [], Z, Z⟩ (x, y)).1.l = [⟨1, (x, y), Z, Z⟩] := by
  have h1 : ¬ n < 1 := by omega
  simp [St.move, St.add, hf, lastK, h1]
theorem mv_false {n x y : Int} (hf : fitsP (x, y) = false) : (St.move ⟨n, [], Z, Z⟩ (x, y)).1.l = [] := by
  simp [St.move, hf]
set_option maxRecDepth 8000 in
set_option maxHeartbeats 4000000 in
theorem open_callsX (ct fx : M6) (ft x y : Int) (pl dk : Bool) (sg n : Int) (hsg : 0 ≤ sg) (hn : sg % 10 + 1 = n) (w : World) (hT : Font.Tab w) :
    Calls Tryz.prog 6 #[.agg #[.int .i64 ct.a, .int .i64 ct.b, .int .i64 ct.c, .int .i64 ct.d, .int .i64 ct.x, .int .i64 ct.y, .int .i64 fx.a, .int .i64 fx.b, .int .i64 fx.c, .int .i64 fx.d, .int .i64 fx.x, .int .i64 fx.y, .int .i64 ft, .int .i64 x, .int .i64 y, .bool pl, .bool dk, .int .u8 sg]] w fun E w' => ∃ (g p c : Nat) (pv v : Value) (C : M6) (F : Int) (FM : M6) (T : St), (if chk (lM ct) = 0 then ct else idM) = C ∧ (if sfE ft fx = 0 then ft else -1) = F ∧ (if sfE ft fx = 0 then fx else idM) = FM ∧ (if pl = true then (St.move ⟨n, [], Z, Z⟩ (x, y)).1 else ⟨n, [], Z, Z⟩) = T ∧ E = .returned (.tuple #[.pointer (some ⟨g, 0, none⟩), .pointer (some ⟨c, 0, none⟩), .agg (rsC C F FM dk n v), .agg #[.int .i64 6553600, .int .i64 6553600, .slice none 0 0, .int .i64 2, .slice none 0 0]]) ∧ Row w' g (gsC C 65536 (.slice none 0 0) 0 F FM dk p 2 n) ∧ PathIs w' p pv T ∧ Row w' c #[.int .i64 6553600, .int .i64 6553600, .slice none 0 0, .int .i64 2, .slice none 0 0] ∧ Segs w' v T.l ∧ Up w w' ∧ Lies w g p c pv v := by
  have HT := Lib.hid hT
  have hn1 : 1 ≤ n := by omega
  clear hT
  obtain ⟨C, hC⟩ : ∃ C, (if chk (lM ct) = 0 then ct else idM) = C := ⟨_, rfl⟩
  obtain ⟨F, hF⟩ : ∃ F, (if sfE ft fx = 0 then ft else -1) = F := ⟨_, rfl⟩
  obtain ⟨FM, hFM⟩ : ∃ FM, (if sfE ft fx = 0 then fx else idM) = FM := ⟨_, rfl⟩
  obtain ⟨T, hTT⟩ : ∃ T, (if pl = true then (St.move ⟨n, [], Z, Z⟩ (x, y)).1 else ⟨n, [], Z, Z⟩) = T := ⟨_, rfl⟩
  have HC := Lib.hid hC
  have HF := Lib.hid hF
  have HFM := Lib.hid hFM
  have HTT := Lib.hid hTT
  clear hC hF hFM hTT
  go_enter Tryz.func6, Tryz.ntmps6
  go_upto_if 31 with (first
    | (go_at_call 12; ((with_reducible refine (gnew_calls 2 _ _).mono ?_); rintro E w1 ⟨g, p, rfl, hg0, hp0, hpg, hr1, hp1, hu1⟩; have z1 := hu1.size; (try simp at z1); (try simp at hg0); (try simp at hp0); have lg := hr1.lt; have lp := hp1.row.lt; have RG := hr1; have HP := Lib.hid hp1; clear hp1))
    | (go_at_call 15; ((with_reducible refine (pnew_calls _).mono ?_); rintro E w2 ⟨c, rfl, hc0, hr2, hu2⟩; have z2 := hu2.size; have lc := hr2.lt))
    | (go_at_call 16; ((with_reducible refine (rstart_calls _ _).mono ?_); rintro E w3 ⟨rfl, hu3⟩; have z3 := hu3.size))
    | ((refine wpList_store_Row rfl 42 (.tmp 10) _ rfl w3.heap.size #[.int .i64 65536, .int .i64 0, .int .i64 0, .int .i64 65536, .int .i64 0, .int .i64 0, .int .i64 1, .int .i64 0, .int .i64 0, .int .i64 0, .int .i64 0, .int .i64 65536, .int .i64 0, .int .i64 0, .int .i64 655360, .slice none 0 0, .int .i64 0, .int .i64 (-1), .int .i64 65536, .int .i64 0, .int .i64 0, .int .i64 65536, .int .i64 0, .int .i64 0, .slice none 0 0, .bool false, .int .i64 n, .slice none 0 0] rfl rfl #[.int .i64 0, .int .i64 0, .int .i64 0, .int .i64 0, .int .i64 0, .int .i64 0, .int .i64 0, .int .i64 0, .int .i64 0, .int .i64 0, .int .i64 0, .int .i64 0, .int .i64 0, .int .i64 0, .int .i64 0, .slice none 0 0, .int .i64 0, .int .i64 0, .int .i64 0, .int .i64 0, .int .i64 0, .int .i64 0, .int .i64 0, .int .i64 0, .slice none 0 0, .bool false, .int .i64 0, .slice none 0 0] (by (repeat' (first | (with_reducible assumption) | (with_reducible refine Row.at _ _ ?_; (simp; done)) | (with_reducible refine Row.alloc ?_ _) | (with_reducible refine Row.drew ?_) | (with_reducible refine Row.drewN ?_ _) | (with_reducible refine Row.other ?_ (by first | (simp; done) | (simp; omega) | omega) _) | (with_reducible refine Row.up ?_ (by with_reducible assumption)) | (with_reducible refine Row.chg ?_ (by with_reducible assumption) (by first | (simp; done) | (simp; omega)))))) infoRs rfl rfl (by simp [Value.oneCell']) ?_); intro w4 hr4 hc4; have z4 := hc4.size; (try simp at z4); have B4 : Row w4 w.heap.size #[.int .i64 ct.a, .int .i64 ct.b, .int .i64 ct.c, .int .i64 ct.d, .int .i64 ct.x, .int .i64 ct.y, .int .i64 fx.a, .int .i64 fx.b, .int .i64 fx.c, .int .i64 fx.d, .int .i64 fx.x, .int .i64 fx.y, .int .i64 ft, .int .i64 x, .int .i64 y, .bool pl, .bool dk, .int .u8 sg] := (by (repeat' (first | (with_reducible assumption) | (with_reducible refine Row.at _ _ ?_; (simp; done)) | (with_reducible refine Row.alloc ?_ _) | (with_reducible refine Row.drew ?_) | (with_reducible refine Row.drewN ?_ _) | (with_reducible refine Row.other ?_ (by first | (simp; done) | (simp; omega) | omega) _) | (with_reducible refine Row.up ?_ (by with_reducible assumption)) | (with_reducible refine Row.chg ?_ (by with_reducible assumption) (by first | (simp; done) | (simp; omega)))))); have HRS : Row w4 w3.heap.size (rsC idM (-1) idM false n (.slice none 0 0)) := hr4; have lb4 := B4.lt; have kw4_0 : w4.cell? ⟨w.heap.size, 0, none⟩ = some (.int .i64 ct.a) := B4.cell 0 rfl; have kw4_1 : w4.cell? ⟨w.heap.size, 1, none⟩ = some (.int .i64 ct.b) := B4.cell 1 rfl; have kw4_2 : w4.cell? ⟨w.heap.size, 2, none⟩ = some (.int .i64 ct.c) := B4.cell 2 rfl; have kw4_3 : w4.cell? ⟨w.heap.size, 3, none⟩ = some (.int .i64 ct.d) := B4.cell 3 rfl; have kw4_4 : w4.cell? ⟨w.heap.size, 4, none⟩ = some (.int .i64 ct.x) := B4.cell 4 rfl; have kw4_5 : w4.cell? ⟨w.heap.size, 5, none⟩ = some (.int .i64 ct.y) := B4.cell 5 rfl; have kw4_6 : w4.cell? ⟨w.heap.size, 6, none⟩ = some (.int .i64 fx.a) := B4.cell 6 rfl; have kw4_7 : w4.cell? ⟨w.heap.size, 7, none⟩ = some (.int .i64 fx.b) := B4.cell 7 rfl; have kw4_8 : w4.cell? ⟨w.heap.size, 8, none⟩ = some (.int .i64 fx.c) := B4.cell 8 rfl; have kw4_9 : w4.cell? ⟨w.heap.size, 9, none⟩ = some (.int .i64 fx.d) := B4.cell 9 rfl; have kw4_10 : w4.cell? ⟨w.heap.size, 10, none⟩ = some (.int .i64 fx.x) := B4.cell 10 rfl; have kw4_11 : w4.cell? ⟨w.heap.size, 11, none⟩ = some (.int .i64 fx.y) := B4.cell 11 rfl; have kw4_12 : w4.cell? ⟨w.heap.size, 12, none⟩ = some (.int .i64 ft) := B4.cell 12 rfl; have kw4_13 : w4.cell? ⟨w.heap.size, 13, none⟩ = some (.int .i64 x) := B4.cell 13 rfl; have kw4_14 : w4.cell? ⟨w.heap.size, 14, none⟩ = some (.int .i64 y) := B4.cell 14 rfl; have kw4_15 : w4.cell? ⟨w.heap.size, 15, none⟩ = some (.bool pl) := B4.cell 15 rfl; have kw4_16 : w4.cell? ⟨w.heap.size, 16, none⟩ = some (.bool dk) := B4.cell 16 rfl; have kw4_17 : w4.cell? ⟨w.heap.size, 17, none⟩ = some (.int .u8 sg) := B4.cell 17 rfl)
    | (go_at_call 17; go_loud (have ap : Ap w g p c w3.heap.size w4.heap.size := ⟨by omega, by omega, hpg, by omega, by omega, by omega, by omega⟩; have AA := (show All w g p c w3.heap.size w4.heap.size ct fx ft x y pl dk sg n idM (-1) idM false idM (-1) idM false (.slice none 0 0) ⟨n, [], Z, Z⟩ (.slice none 0 0) (w4.alloc (.cells #[.int .i64 6553600, .int .i64 6553600, .slice none 0 0, .int .i64 2, .slice none 0 0] 48)) from ⟨by (repeat' (first | (with_reducible assumption) | (with_reducible refine Row.at _ _ ?_; (simp; done)) | (with_reducible refine Row.alloc ?_ _) | (with_reducible refine Row.drew ?_) | (with_reducible refine Row.drewN ?_ _) | (with_reducible refine Row.other ?_ (by first | (simp; done) | (simp; omega) | omega) _) | (with_reducible refine Row.up ?_ (by with_reducible assumption)) | (with_reducible refine Row.chg ?_ (by with_reducible assumption) (by first | (simp; done) | (simp; omega))))), by (repeat' (first | (with_reducible assumption) | (with_reducible refine Row.at _ _ ?_; (simp; done)) | (with_reducible refine Row.alloc ?_ _) | (with_reducible refine Row.drew ?_) | (with_reducible refine Row.drewN ?_ _) | (with_reducible refine Row.other ?_ (by first | (simp; done) | (simp; omega) | omega) _) | (with_reducible refine Row.up ?_ (by with_reducible assumption)) | (with_reducible refine Row.chg ?_ (by with_reducible assumption) (by first | (simp; done) | (simp; omega))))), by (repeat' (first | (with_reducible assumption) | (with_reducible refine Row.at _ _ ?_; (simp; done)) | (with_reducible refine Row.alloc ?_ _) | (with_reducible refine Row.drew ?_) | (with_reducible refine Row.drewN ?_ _) | (with_reducible refine Row.other ?_ (by first | (simp; done) | (simp; omega) | omega) _) | (with_reducible refine Row.up ?_ (by with_reducible assumption)) | (with_reducible refine Row.chg ?_ (by with_reducible assumption) (by first | (simp; done) | (simp; omega))))), by (repeat' (first | (with_reducible assumption) | (with_reducible refine Row.at _ _ ?_; (simp; done)) | (with_reducible refine Row.alloc ?_ _) | (with_reducible refine Row.drew ?_) | (with_reducible refine Row.drewN ?_ _) | (with_reducible refine Row.other ?_ (by first | (simp; done) | (simp; omega) | omega) _) | (with_reducible refine Row.up ?_ (by with_reducible assumption)) | (with_reducible refine Row.chg ?_ (by with_reducible assumption) (by first | (simp; done) | (simp; omega))))), HP.out.chg (S := []) (by (repeat' (first | (with_reducible exact Chg.refl _ _) | (with_reducible assumption) | (with_reducible refine Chg.alloc ?_ _) | (with_reducible refine Chg.drew ?_) | (with_reducible refine Chg.drewN ?_ _) | (with_reducible refine Chg.setCell ?_ ?_ _) | (with_reducible refine Chg.upc ?_ (by with_reducible assumption)) | (with_reducible refine Chg.call ?_ (by with_reducible assumption) ?_) | (refine Or.inl ?_; (simp; done)) | (simp; done) | (simp; omega) | omega))) (by simp) (by simp), (fun k hk => by cases hk), by (repeat' (first | (with_reducible assumption) | (with_reducible refine Row.at _ _ ?_; (simp; done)) | (with_reducible refine Row.alloc ?_ _) | (with_reducible refine Row.drew ?_) | (with_reducible refine Row.drewN ?_ _) | (with_reducible refine Row.other ?_ (by first | (simp; done) | (simp; omega) | omega) _) | (with_reducible refine Row.up ?_ (by with_reducible assumption)) | (with_reducible refine Row.chg ?_ (by with_reducible assumption) (by first | (simp; done) | (simp; omega))))), by (repeat' (first | (with_reducible assumption) | (with_reducible refine Row.at _ _ ?_; (simp; done)) | (with_reducible refine Row.alloc ?_ _) | (with_reducible refine Row.drew ?_) | (with_reducible refine Row.drewN ?_ _) | (with_reducible refine Row.other ?_ (by first | (simp; done) | (simp; omega) | omega) _) | (with_reducible refine Row.up ?_ (by with_reducible assumption)) | (with_reducible refine Row.chg ?_ (by with_reducible assumption) (by first | (simp; done) | (simp; omega))))), World.ownsRow_nil _ _ _ _, (fun k hk => by cases hk), by (repeat' (first | (with_reducible assumption) | (with_reducible refine Row.at _ _ ?_; (simp; done)) | (with_reducible refine Row.alloc ?_ _) | (with_reducible refine Row.drew ?_) | (with_reducible refine Row.drewN ?_ _) | (with_reducible refine Row.other ?_ (by first | (simp; done) | (simp; omega) | omega) _) | (with_reducible refine Row.up ?_ (by with_reducible assumption)) | (with_reducible refine Row.chg ?_ (by with_reducible assumption) (by first | (simp; done) | (simp; omega))))), by (repeat' (first | (with_reducible exact Chg.refl _ _) | (with_reducible assumption) | (with_reducible refine Chg.alloc ?_ _) | (with_reducible refine Chg.drew ?_) | (with_reducible refine Chg.drewN ?_ _) | (with_reducible refine Chg.setCell ?_ ?_ _) | (with_reducible refine Chg.upc ?_ (by with_reducible assumption)) | (with_reducible refine Chg.call ?_ (by with_reducible assumption) ?_) | (refine Or.inl ?_; (simp; done)) | (simp; done) | (simp; omega) | omega)), (fun k hk => by cases hk)⟩); ((with_reducible refine (setMatrix_calls g _ _ _ _ _ _ _ p _ _ ct _ AA.gs).mono ?_); rintro E w5 ⟨rfl, hr5, hc5⟩; rw [HC.out] at hr5; have HA5 := Lib.hid (AA.onG ap hr5 hc5); have BX5 := HA5.out.box; have RX5 := HA5.out.rs; have kw5_0 : w5.cell? ⟨w.heap.size, 0, none⟩ = some (.int .i64 ct.a) := BX5.cell 0 rfl; have kw5_1 : w5.cell? ⟨w.heap.size, 1, none⟩ = some (.int .i64 ct.b) := BX5.cell 1 rfl; have kw5_2 : w5.cell? ⟨w.heap.size, 2, none⟩ = some (.int .i64 ct.c) := BX5.cell 2 rfl; have kw5_3 : w5.cell? ⟨w.heap.size, 3, none⟩ = some (.int .i64 ct.d) := BX5.cell 3 rfl; have kw5_4 : w5.cell? ⟨w.heap.size, 4, none⟩ = some (.int .i64 ct.x) := BX5.cell 4 rfl; have kw5_5 : w5.cell? ⟨w.heap.size, 5, none⟩ = some (.int .i64 ct.y) := BX5.cell 5 rfl; have kw5_6 : w5.cell? ⟨w.heap.size, 6, none⟩ = some (.int .i64 fx.a) := BX5.cell 6 rfl; have kw5_7 : w5.cell? ⟨w.heap.size, 7, none⟩ = some (.int .i64 fx.b) := BX5.cell 7 rfl; have kw5_8 : w5.cell? ⟨w.heap.size, 8, none⟩ = some (.int .i64 fx.c) := BX5.cell 8 rfl; have kw5_9 : w5.cell? ⟨w.heap.size, 9, none⟩ = some (.int .i64 fx.d) := BX5.cell 9 rfl; have kw5_10 : w5.cell? ⟨w.heap.size, 10, none⟩ = some (.int .i64 fx.x) := BX5.cell 10 rfl; have kw5_11 : w5.cell? ⟨w.heap.size, 11, none⟩ = some (.int .i64 fx.y) := BX5.cell 11 rfl; have kw5_12 : w5.cell? ⟨w.heap.size, 12, none⟩ = some (.int .i64 ft) := BX5.cell 12 rfl; have kw5_13 : w5.cell? ⟨w.heap.size, 13, none⟩ = some (.int .i64 x) := BX5.cell 13 rfl; have kw5_14 : w5.cell? ⟨w.heap.size, 14, none⟩ = some (.int .i64 y) := BX5.cell 14 rfl; have kw5_15 : w5.cell? ⟨w.heap.size, 15, none⟩ = some (.bool pl) := BX5.cell 15 rfl; have kw5_16 : w5.cell? ⟨w.heap.size, 16, none⟩ = some (.bool dk) := BX5.cell 16 rfl; have kw5_17 : w5.cell? ⟨w.heap.size, 17, none⟩ = some (.int .u8 sg) := BX5.cell 17 rfl; have rw5_0 : w5.cell? ⟨w3.heap.size, 0, none⟩ = some (.int .i64 idM.a) := RX5.cell 0 rfl; have fw5_0 := RX5.free 0; have rw5_1 : w5.cell? ⟨w3.heap.size, 1, none⟩ = some (.int .i64 idM.b) := RX5.cell 1 rfl; have fw5_1 := RX5.free 1; have rw5_2 : w5.cell? ⟨w3.heap.size, 2, none⟩ = some (.int .i64 idM.c) := RX5.cell 2 rfl; have fw5_2 := RX5.free 2; have rw5_3 : w5.cell? ⟨w3.heap.size, 3, none⟩ = some (.int .i64 idM.d) := RX5.cell 3 rfl; have fw5_3 := RX5.free 3; have rw5_4 : w5.cell? ⟨w3.heap.size, 4, none⟩ = some (.int .i64 idM.x) := RX5.cell 4 rfl; have fw5_4 := RX5.free 4; have rw5_5 : w5.cell? ⟨w3.heap.size, 5, none⟩ = some (.int .i64 idM.y) := RX5.cell 5 rfl; have fw5_5 := RX5.free 5; clear AA hr5 hc5 BX5))))
  go_cut [] from 12 (fun wx => All w g p c w3.heap.size w4.heap.size ct fx ft x y pl dk sg n C (-1) idM false C (-1) idM false (.slice none 0 0) ⟨n, [], Z, Z⟩ (.slice none 0 0) wx)
  case first =>
    go_wp2
    all_goals go_meet
    case rel =>
      obtain rfl := (matrix_of HC.out).1 (by assumption)
      exact HA5.out.onS ap (by apply cast; (case h => (repeat (first | (with_reducible assumption) | (with_reducible apply Row.at; (simp; done)) | (with_reducible apply Row.alloc) | (with_reducible apply Row.drew) | (with_reducible apply Row.drewN) | (with_reducible apply Row.set) | ((with_reducible apply Row.other); (case hp => first | (simp; done) | (simp; omega) | omega))))); (case e => rfl)) (by (repeat' (first | (with_reducible exact Chg.refl _ _) | (with_reducible assumption) | (with_reducible refine Chg.alloc ?_ _) | (with_reducible refine Chg.drew ?_) | (with_reducible refine Chg.drewN ?_ _) | (with_reducible refine Chg.setCell ?_ ?_ _) | (with_reducible refine Chg.upc ?_ (by with_reducible assumption)) | (with_reducible refine Chg.call ?_ (by with_reducible assumption) ?_) | (refine Or.inl ?_; (simp; done)) | (simp; done) | (simp; omega) | omega)))
    case rel =>
      obtain rfl := (matrix_of HC.out).2 (by assumption)
      exact HA5.out

  case rest =>
    have HA1 := Lib.hid hcut
    rename World => c1
    have BX1 := HA1.out.box
    have lbx1 := BX1.lt
    have RX1 := HA1.out.rs
    have lrx1 := RX1.lt
    have kc1_0 : c1.cell? ⟨w.heap.size, 0, none⟩ = some (.int .i64 ct.a) := BX1.cell 0 rfl
    have kc1_1 : c1.cell? ⟨w.heap.size, 1, none⟩ = some (.int .i64 ct.b) := BX1.cell 1 rfl
    have kc1_2 : c1.cell? ⟨w.heap.size, 2, none⟩ = some (.int .i64 ct.c) := BX1.cell 2 rfl
    have kc1_3 : c1.cell? ⟨w.heap.size, 3, none⟩ = some (.int .i64 ct.d) := BX1.cell 3 rfl
    have kc1_4 : c1.cell? ⟨w.heap.size, 4, none⟩ = some (.int .i64 ct.x) := BX1.cell 4 rfl
    have kc1_5 : c1.cell? ⟨w.heap.size, 5, none⟩ = some (.int .i64 ct.y) := BX1.cell 5 rfl
    have kc1_6 : c1.cell? ⟨w.heap.size, 6, none⟩ = some (.int .i64 fx.a) := BX1.cell 6 rfl
    have kc1_7 : c1.cell? ⟨w.heap.size, 7, none⟩ = some (.int .i64 fx.b) := BX1.cell 7 rfl
    have kc1_8 : c1.cell? ⟨w.heap.size, 8, none⟩ = some (.int .i64 fx.c) := BX1.cell 8 rfl
    have kc1_9 : c1.cell? ⟨w.heap.size, 9, none⟩ = some (.int .i64 fx.d) := BX1.cell 9 rfl
    have kc1_10 : c1.cell? ⟨w.heap.size, 10, none⟩ = some (.int .i64 fx.x) := BX1.cell 10 rfl
    have kc1_11 : c1.cell? ⟨w.heap.size, 11, none⟩ = some (.int .i64 fx.y) := BX1.cell 11 rfl
    have kc1_12 : c1.cell? ⟨w.heap.size, 12, none⟩ = some (.int .i64 ft) := BX1.cell 12 rfl
    have kc1_13 : c1.cell? ⟨w.heap.size, 13, none⟩ = some (.int .i64 x) := BX1.cell 13 rfl
    have kc1_14 : c1.cell? ⟨w.heap.size, 14, none⟩ = some (.int .i64 y) := BX1.cell 14 rfl
    have kc1_15 : c1.cell? ⟨w.heap.size, 15, none⟩ = some (.bool pl) := BX1.cell 15 rfl
    have kc1_16 : c1.cell? ⟨w.heap.size, 16, none⟩ = some (.bool dk) := BX1.cell 16 rfl
    have kc1_17 : c1.cell? ⟨w.heap.size, 17, none⟩ = some (.int .u8 sg) := BX1.cell 17 rfl
    clear hcut

    go_upto_if 41 with (go_at_call 13; ((with_reducible refine (setFont_calls g _ _ _ _ _ _ _ p _ _ ft fx _ HA1.out.gs (HT.out.up HA1.out.up.up)).mono ?_); rintro E w6 ⟨rfl, hr6, hc6⟩; rw [HF.out, HFM.out] at hr6; have HA6 := Lib.hid (HA1.out.onG ap hr6 hc6); have BX6 := HA6.out.box; have RX6 := HA6.out.rs; have kw6_0 : w6.cell? ⟨w.heap.size, 0, none⟩ = some (.int .i64 ct.a) := BX6.cell 0 rfl; have kw6_1 : w6.cell? ⟨w.heap.size, 1, none⟩ = some (.int .i64 ct.b) := BX6.cell 1 rfl; have kw6_2 : w6.cell? ⟨w.heap.size, 2, none⟩ = some (.int .i64 ct.c) := BX6.cell 2 rfl; have kw6_3 : w6.cell? ⟨w.heap.size, 3, none⟩ = some (.int .i64 ct.d) := BX6.cell 3 rfl; have kw6_4 : w6.cell? ⟨w.heap.size, 4, none⟩ = some (.int .i64 ct.x) := BX6.cell 4 rfl; have kw6_5 : w6.cell? ⟨w.heap.size, 5, none⟩ = some (.int .i64 ct.y) := BX6.cell 5 rfl; have kw6_6 : w6.cell? ⟨w.heap.size, 6, none⟩ = some (.int .i64 fx.a) := BX6.cell 6 rfl; have kw6_7 : w6.cell? ⟨w.heap.size, 7, none⟩ = some (.int .i64 fx.b) := BX6.cell 7 rfl; have kw6_8 : w6.cell? ⟨w.heap.size, 8, none⟩ = some (.int .i64 fx.c) := BX6.cell 8 rfl; have kw6_9 : w6.cell? ⟨w.heap.size, 9, none⟩ = some (.int .i64 fx.d) := BX6.cell 9 rfl; have kw6_10 : w6.cell? ⟨w.heap.size, 10, none⟩ = some (.int .i64 fx.x) := BX6.cell 10 rfl; have kw6_11 : w6.cell? ⟨w.heap.size, 11, none⟩ = some (.int .i64 fx.y) := BX6.cell 11 rfl; have kw6_12 : w6.cell? ⟨w.heap.size, 12, none⟩ = some (.int .i64 ft) := BX6.cell 12 rfl; have kw6_13 : w6.cell? ⟨w.heap.size, 13, none⟩ = some (.int .i64 x) := BX6.cell 13 rfl; have kw6_14 : w6.cell? ⟨w.heap.size, 14, none⟩ = some (.int .i64 y) := BX6.cell 14 rfl; have kw6_15 : w6.cell? ⟨w.heap.size, 15, none⟩ = some (.bool pl) := BX6.cell 15 rfl; have kw6_16 : w6.cell? ⟨w.heap.size, 16, none⟩ = some (.bool dk) := BX6.cell 16 rfl; have kw6_17 : w6.cell? ⟨w.heap.size, 17, none⟩ = some (.int .u8 sg) := BX6.cell 17 rfl; have rw6_17 : w6.cell? ⟨w3.heap.size, 17, none⟩ = some (.int .i64 ((-1))) := RX6.cell 17 rfl; have fw6_17 := RX6.free 17; have rw6_18 : w6.cell? ⟨w3.heap.size, 18, none⟩ = some (.int .i64 idM.a) := RX6.cell 18 rfl; have fw6_18 := RX6.free 18; have rw6_19 : w6.cell? ⟨w3.heap.size, 19, none⟩ = some (.int .i64 idM.b) := RX6.cell 19 rfl; have fw6_19 := RX6.free 19; have rw6_20 : w6.cell? ⟨w3.heap.size, 20, none⟩ = some (.int .i64 idM.c) := RX6.cell 20 rfl; have fw6_20 := RX6.free 20; have rw6_21 : w6.cell? ⟨w3.heap.size, 21, none⟩ = some (.int .i64 idM.d) := RX6.cell 21 rfl; have fw6_21 := RX6.free 21; have rw6_22 : w6.cell? ⟨w3.heap.size, 22, none⟩ = some (.int .i64 idM.x) := RX6.cell 22 rfl; have fw6_22 := RX6.free 22; have rw6_23 : w6.cell? ⟨w3.heap.size, 23, none⟩ = some (.int .i64 idM.y) := RX6.cell 23 rfl; have fw6_23 := RX6.free 23; clear hr6 hc6 BX6))
    go_cut [] from 12 (fun wx => All w g p c w3.heap.size w4.heap.size ct fx ft x y pl dk sg n C F FM false C F FM false (.slice none 0 0) ⟨n, [], Z, Z⟩ (.slice none 0 0) wx)
    case first =>
      go_wp2
      · go_region
        all_goals go_wp2
        all_goals go_meet
        all_goals
          case rel =>
            obtain rfl := (font_of HF.out).1 (by assumption)
            obtain rfl := (font_of HFM.out).1 (by assumption)
            exact HA6.out.onS ap (by apply cast; (case h => (repeat (first | (with_reducible assumption) | (with_reducible apply Row.at; (simp; done)) | (with_reducible apply Row.alloc) | (with_reducible apply Row.drew) | (with_reducible apply Row.drewN) | (with_reducible apply Row.set) | ((with_reducible apply Row.other); (case hp => first | (simp; done) | (simp; omega) | omega))))); (case e => rfl)) (by (repeat' (first | (with_reducible exact Chg.refl _ _) | (with_reducible assumption) | (with_reducible refine Chg.alloc ?_ _) | (with_reducible refine Chg.drew ?_) | (with_reducible refine Chg.drewN ?_ _) | (with_reducible refine Chg.setCell ?_ ?_ _) | (with_reducible refine Chg.upc ?_ (by with_reducible assumption)) | (with_reducible refine Chg.call ?_ (by with_reducible assumption) ?_) | (refine Or.inl ?_; (simp; done)) | (simp; done) | (simp; omega) | omega)))
      · go_meet
        case rel =>
          obtain rfl := (font_of HF.out).2 (by assumption)
          obtain rfl := (font_of HFM.out).2 (by assumption)
          exact HA6.out
    case rest =>

      have HA2 := Lib.hid hcut
      rename World => c2
      have BX2 := HA2.out.box
      have lbx2 := BX2.lt
      have RX2 := HA2.out.rs
      have lrx2 := RX2.lt
      have kc2_0 : c2.cell? ⟨w.heap.size, 0, none⟩ = some (.int .i64 ct.a) := BX2.cell 0 rfl
      have kc2_1 : c2.cell? ⟨w.heap.size, 1, none⟩ = some (.int .i64 ct.b) := BX2.cell 1 rfl
      have kc2_2 : c2.cell? ⟨w.heap.size, 2, none⟩ = some (.int .i64 ct.c) := BX2.cell 2 rfl
      have kc2_3 : c2.cell? ⟨w.heap.size, 3, none⟩ = some (.int .i64 ct.d) := BX2.cell 3 rfl
      have kc2_4 : c2.cell? ⟨w.heap.size, 4, none⟩ = some (.int .i64 ct.x) := BX2.cell 4 rfl
      have kc2_5 : c2.cell? ⟨w.heap.size, 5, none⟩ = some (.int .i64 ct.y) := BX2.cell 5 rfl
      have kc2_6 : c2.cell? ⟨w.heap.size, 6, none⟩ = some (.int .i64 fx.a) := BX2.cell 6 rfl
      have kc2_7 : c2.cell? ⟨w.heap.size, 7, none⟩ = some (.int .i64 fx.b) := BX2.cell 7 rfl
      have kc2_8 : c2.cell? ⟨w.heap.size, 8, none⟩ = some (.int .i64 fx.c) := BX2.cell 8 rfl
      have kc2_9 : c2.cell? ⟨w.heap.size, 9, none⟩ = some (.int .i64 fx.d) := BX2.cell 9 rfl
      have kc2_10 : c2.cell? ⟨w.heap.size, 10, none⟩ = some (.int .i64 fx.x) := BX2.cell 10 rfl
      have kc2_11 : c2.cell? ⟨w.heap.size, 11, none⟩ = some (.int .i64 fx.y) := BX2.cell 11 rfl
      have kc2_12 : c2.cell? ⟨w.heap.size, 12, none⟩ = some (.int .i64 ft) := BX2.cell 12 rfl
      have kc2_13 : c2.cell? ⟨w.heap.size, 13, none⟩ = some (.int .i64 x) := BX2.cell 13 rfl
      have kc2_14 : c2.cell? ⟨w.heap.size, 14, none⟩ = some (.int .i64 y) := BX2.cell 14 rfl
      have kc2_15 : c2.cell? ⟨w.heap.size, 15, none⟩ = some (.bool pl) := BX2.cell 15 rfl
      have kc2_16 : c2.cell? ⟨w.heap.size, 16, none⟩ = some (.bool dk) := BX2.cell 16 rfl
      have kc2_17 : c2.cell? ⟨w.heap.size, 17, none⟩ = some (.int .u8 sg) := BX2.cell 17 rfl
      clear hcut

      go_upto_if 49 with fail
      go_cut [0] from 12 (fun s0 wx => s0 = .agg #[.int .i64 ct.a, .int .i64 ct.b, .int .i64 ct.c, .int .i64 ct.d, .int .i64 ct.x, .int .i64 ct.y, .int .i64 fx.a, .int .i64 fx.b, .int .i64 fx.c, .int .i64 fx.d, .int .i64 fx.x, .int .i64 fx.y, .int .i64 ft, .int .i64 x, .int .i64 y, .bool pl, .bool dk, .int .u8 sg] ∧ All w g p c w3.heap.size w4.heap.size ct fx ft x y pl dk sg n C F FM dk C F FM dk (.slice none 0 0) ⟨n, [], Z, Z⟩ (.slice none 0 0) wx)
      case first =>
        go_wp2_with (first
          | (go_at_call 18; ((with_reducible refine (clip_calls g _ _ _ _ _ _ _ p _ _ _ _ _ _ HA2.out.gs HA2.out.pt rfl).mono ?_); rintro E w7 ⟨rfl, hr7, hc7⟩; have HA7 := Lib.hid (HA2.out.onG ap hr7 hc7)))
          | (go_at_call 19; ((with_reducible refine (rclip_calls w3.heap.size _ _ _ _ _ _ _ HA7.out.rs).mono ?_); rintro E w8 ⟨rfl, hr8, hc8⟩; have HA8 := Lib.hid (HA7.out.onS ap hr8 hc8))))
        all_goals go_meet
        case rel =>
          obtain rfl : dk = true := by assumption
          exact ⟨rfl, HA8.out⟩
        case rel =>
          obtain rfl : dk = false := by assumption
          exact ⟨rfl, HA2.out⟩
      case rest =>
        obtain ⟨rfl, hcut⟩ := hcut
        have HA3 := Lib.hid hcut
        rename World => c3
        have BX3 := HA3.out.box
        have lbx3 := BX3.lt
        have RX3 := HA3.out.rs
        have lrx3 := RX3.lt
        have kc3_0 : c3.cell? ⟨w.heap.size, 0, none⟩ = some (.int .i64 ct.a) := BX3.cell 0 rfl
        have kc3_1 : c3.cell? ⟨w.heap.size, 1, none⟩ = some (.int .i64 ct.b) := BX3.cell 1 rfl
        have kc3_2 : c3.cell? ⟨w.heap.size, 2, none⟩ = some (.int .i64 ct.c) := BX3.cell 2 rfl
        have kc3_3 : c3.cell? ⟨w.heap.size, 3, none⟩ = some (.int .i64 ct.d) := BX3.cell 3 rfl
        have kc3_4 : c3.cell? ⟨w.heap.size, 4, none⟩ = some (.int .i64 ct.x) := BX3.cell 4 rfl
        have kc3_5 : c3.cell? ⟨w.heap.size, 5, none⟩ = some (.int .i64 ct.y) := BX3.cell 5 rfl
        have kc3_6 : c3.cell? ⟨w.heap.size, 6, none⟩ = some (.int .i64 fx.a) := BX3.cell 6 rfl
        have kc3_7 : c3.cell? ⟨w.heap.size, 7, none⟩ = some (.int .i64 fx.b) := BX3.cell 7 rfl
        have kc3_8 : c3.cell? ⟨w.heap.size, 8, none⟩ = some (.int .i64 fx.c) := BX3.cell 8 rfl
        have kc3_9 : c3.cell? ⟨w.heap.size, 9, none⟩ = some (.int .i64 fx.d) := BX3.cell 9 rfl
        have kc3_10 : c3.cell? ⟨w.heap.size, 10, none⟩ = some (.int .i64 fx.x) := BX3.cell 10 rfl
        have kc3_11 : c3.cell? ⟨w.heap.size, 11, none⟩ = some (.int .i64 fx.y) := BX3.cell 11 rfl
        have kc3_12 : c3.cell? ⟨w.heap.size, 12, none⟩ = some (.int .i64 ft) := BX3.cell 12 rfl
        have kc3_13 : c3.cell? ⟨w.heap.size, 13, none⟩ = some (.int .i64 x) := BX3.cell 13 rfl
        have kc3_14 : c3.cell? ⟨w.heap.size, 14, none⟩ = some (.int .i64 y) := BX3.cell 14 rfl
        have kc3_15 : c3.cell? ⟨w.heap.size, 15, none⟩ = some (.bool pl) := BX3.cell 15 rfl
        have kc3_16 : c3.cell? ⟨w.heap.size, 16, none⟩ = some (.bool dk) := BX3.cell 16 rfl
        have kc3_17 : c3.cell? ⟨w.heap.size, 17, none⟩ = some (.int .u8 sg) := BX3.cell 17 rfl
        clear hcut
        have ag0 := ap.g0
        have ap0 := ap.p0
        have apc := ap.pc
        have acs := ap.cs
        have asm := ap.sm
        go_upto_if 54 with fail
        go_cut [0] from 12 (fun s0 wx => s0 = .agg #[.int .i64 ct.a, .int .i64 ct.b, .int .i64 ct.c, .int .i64 ct.d, .int .i64 ct.x, .int .i64 ct.y, .int .i64 fx.a, .int .i64 fx.b, .int .i64 fx.c, .int .i64 fx.d, .int .i64 fx.x, .int .i64 fx.y, .int .i64 ft, .int .i64 x, .int .i64 y, .bool pl, .bool dk, .int .u8 sg] ∧ ∃ pv v, All w g p c w3.heap.size w4.heap.size ct fx ft x y pl dk sg n C F FM dk C F FM dk pv T v wx)
        case first =>
          by_cases hf : fitsP (x, y) = true
          · have HH := Lib.hid hf
            clear hf
            go_wp2
            · go_region_held3 (fun w' => w'.cell? ⟨w.heap.size, 13, none⟩ = some (.int .i64 x) ∧ w'.cell? ⟨w.heap.size, 14, none⟩ = some (.int .i64 y)) (first | with_reducible exact ⟨k9_13, k9_14⟩ | with_reducible exact ⟨kc3_13, kc3_14⟩ | go_keep) (first
                | (go_at_call 20; ((with_reducible refine (path_calls g p _ ((show Row _ g (gsC C 65536 (.slice none 0 0) 0 F FM dk p 2 n) from (by have hg3 := HA3.out.gs; (repeat' (first | (with_reducible assumption) | (with_reducible refine Row.at _ _ ?_; (simp; done)) | (with_reducible refine Row.alloc ?_ _) | (with_reducible refine Row.drew ?_) | (with_reducible refine Row.drewN ?_ _) | (with_reducible refine Row.other ?_ (by first | (simp; done) | (simp; omega) | omega) _) | (with_reducible refine Row.up ?_ (by with_reducible assumption)) | (with_reducible refine Row.chg ?_ (by with_reducible assumption) (by first | (simp; done) | (simp; omega))))))).cell 26 rfl)).mono ?_); rintro E w90 ⟨rfl, rfl⟩))
                | (go_at_call 21; ((with_reducible refine (move_other p _ ⟨n, [], Z, Z⟩ x y _ (HA3.out.pt.up (by (repeat' (first | (with_reducible exact Up.refl _) | (with_reducible assumption) | (with_reducible refine Up.alloc ?_ _) | (with_reducible refine Up.drew ?_) | (with_reducible refine Up.drewN ?_ _) | (with_reducible refine Up.setCell ?_ ?_ _) | (with_reducible refine Up.call ?_ (by with_reducible assumption)) | go_size)))) (by simp) (by simp [lastK])).mono ?_); rintro E w9 ⟨rfl, hl⟩; have hl2 := Path.Left.of_up (show Up c3 _ by (repeat' (first | (with_reducible exact Up.refl _) | (with_reducible assumption) | (with_reducible refine Up.alloc ?_ _) | (with_reducible refine Up.drew ?_) | (with_reducible refine Up.drewN ?_ _) | (with_reducible refine Up.setCell ?_ ?_ _) | (with_reducible refine Up.call ?_ (by with_reducible assumption)) | go_size))) hl; have HL := Lib.hid hl2; have hcp : Chg [p] c3 w9 := (by obtain ⟨_, _, h2, _⟩ := hl2; exact h2); have bx9 := HA3.out.box.chg hcp (by simp; omega); have rs9 := HA3.out.rs.chg hcp (by simp; omega); have k9_13 : w9.cell? ⟨w.heap.size, 13, none⟩ = some (.int .i64 x) := bx9.cell 13 rfl; have k9_14 : w9.cell? ⟨w.heap.size, 14, none⟩ = some (.int .i64 y) := bx9.cell 14 rfl; clear hl hl2)))
              all_goals go_wp2_with (go_at_call 22; ((with_reducible refine (rmove_calls w3.heap.size _ _ _ _ n x y hn1 _ rs9).mono ?_); rintro E w10 hor; (obtain ⟨rfl, hmv⟩ : E = .returned (.int .i64 0) ∧ Moved w9 w3.heap.size C F FM dk n x y w10 := (by rcases hor with ⟨h0, h1, h2⟩ | ⟨h0, h1, h2⟩ <;> first | exact ⟨h1, h2⟩ | (rw [HH.out] at h0; cases h0))); clear hor))
              all_goals go_meet
              all_goals
                case rel =>
                  obtain rfl : pl = true := by assumption
                  have hT2 : T = (St.move ⟨n, [], Z, Z⟩ (x, y)).1 := by rw [← HTT.out, if_pos rfl]
                  subst hT2
                  exact ⟨rfl, HA3.out.onM ap HL.out (Or.inl ⟨mv_true hn1 HH.out, hmv⟩)⟩
            · go_meet
              case rel =>
                obtain rfl : pl = false := by assumption
                have hT2 : T = ⟨n, [], Z, Z⟩ := by rw [← HTT.out, if_neg (by decide)]
                subst hT2
                exact ⟨rfl, _, _, HA3.out⟩
          · have hf : fitsP (x, y) = false := by simpa using hf
            have HH := Lib.hid hf
            clear hf
            go_wp2
            · go_region_held3 (fun w' => w'.cell? ⟨w.heap.size, 13, none⟩ = some (.int .i64 x) ∧ w'.cell? ⟨w.heap.size, 14, none⟩ = some (.int .i64 y)) (first | with_reducible exact ⟨k9_13, k9_14⟩ | with_reducible exact ⟨kc3_13, kc3_14⟩ | go_keep) (first
                | (go_at_call 20; ((with_reducible refine (path_calls g p _ ((show Row _ g (gsC C 65536 (.slice none 0 0) 0 F FM dk p 2 n) from (by have hg3 := HA3.out.gs; (repeat' (first | (with_reducible assumption) | (with_reducible refine Row.at _ _ ?_; (simp; done)) | (with_reducible refine Row.alloc ?_ _) | (with_reducible refine Row.drew ?_) | (with_reducible refine Row.drewN ?_ _) | (with_reducible refine Row.other ?_ (by first | (simp; done) | (simp; omega) | omega) _) | (with_reducible refine Row.up ?_ (by with_reducible assumption)) | (with_reducible refine Row.chg ?_ (by with_reducible assumption) (by first | (simp; done) | (simp; omega))))))).cell 26 rfl)).mono ?_); rintro E w90 ⟨rfl, rfl⟩))
                | (go_at_call 21; ((with_reducible refine (move_other p _ ⟨n, [], Z, Z⟩ x y _ (HA3.out.pt.up (by (repeat' (first | (with_reducible exact Up.refl _) | (with_reducible assumption) | (with_reducible refine Up.alloc ?_ _) | (with_reducible refine Up.drew ?_) | (with_reducible refine Up.drewN ?_ _) | (with_reducible refine Up.setCell ?_ ?_ _) | (with_reducible refine Up.call ?_ (by with_reducible assumption)) | go_size)))) (by simp) (by simp [lastK])).mono ?_); rintro E w9 ⟨rfl, hl⟩; have hl2 := Path.Left.of_up (show Up c3 _ by (repeat' (first | (with_reducible exact Up.refl _) | (with_reducible assumption) | (with_reducible refine Up.alloc ?_ _) | (with_reducible refine Up.drew ?_) | (with_reducible refine Up.drewN ?_ _) | (with_reducible refine Up.setCell ?_ ?_ _) | (with_reducible refine Up.call ?_ (by with_reducible assumption)) | go_size))) hl; have HL := Lib.hid hl2; have hcp : Chg [p] c3 w9 := (by obtain ⟨_, _, h2, _⟩ := hl2; exact h2); have bx9 := HA3.out.box.chg hcp (by simp; omega); have rs9 := HA3.out.rs.chg hcp (by simp; omega); have k9_13 : w9.cell? ⟨w.heap.size, 13, none⟩ = some (.int .i64 x) := bx9.cell 13 rfl; have k9_14 : w9.cell? ⟨w.heap.size, 14, none⟩ = some (.int .i64 y) := bx9.cell 14 rfl; clear hl hl2)))
              all_goals go_wp2_with (go_at_call 22; ((with_reducible refine (rmove_calls w3.heap.size _ _ _ _ n x y hn1 _ rs9).mono ?_); rintro E w10 hor; (obtain ⟨rfl, hmv⟩ : E = .returned (.int .i64 11) ∧ Up w9 w10 := (by rcases hor with ⟨h0, h1, h2⟩ | ⟨h0, h1, h2⟩ <;> first | exact ⟨h1, h2⟩ | (rw [HH.out] at h0; cases h0))); clear hor))
              all_goals go_meet
              all_goals
                case rel =>
                  obtain rfl : pl = true := by assumption
                  have hT2 : T = (St.move ⟨n, [], Z, Z⟩ (x, y)).1 := by rw [← HTT.out, if_pos rfl]
                  subst hT2
                  exact ⟨rfl, HA3.out.onM ap HL.out (Or.inr ⟨mv_false HH.out, hmv⟩)⟩
            · go_meet
              case rel =>
                obtain rfl : pl = false := by assumption
                have hT2 : T = ⟨n, [], Z, Z⟩ := by rw [← HTT.out, if_neg (by decide)]
                subst hT2
                exact ⟨rfl, _, _, HA3.out⟩
        case rest =>
          obtain ⟨rfl, pv, v, hcut⟩ := hcut
          have HA4 := Lib.hid hcut
          rename World => c4
          have BX4 := HA4.out.box
          have lbx4 := BX4.lt
          have RX4 := HA4.out.rs
          have lrx4 := RX4.lt
          have kc4_0 : c4.cell? ⟨w.heap.size, 0, none⟩ = some (.int .i64 ct.a) := BX4.cell 0 rfl
          have kc4_1 : c4.cell? ⟨w.heap.size, 1, none⟩ = some (.int .i64 ct.b) := BX4.cell 1 rfl
          have kc4_2 : c4.cell? ⟨w.heap.size, 2, none⟩ = some (.int .i64 ct.c) := BX4.cell 2 rfl
          have kc4_3 : c4.cell? ⟨w.heap.size, 3, none⟩ = some (.int .i64 ct.d) := BX4.cell 3 rfl
          have kc4_4 : c4.cell? ⟨w.heap.size, 4, none⟩ = some (.int .i64 ct.x) := BX4.cell 4 rfl
          have kc4_5 : c4.cell? ⟨w.heap.size, 5, none⟩ = some (.int .i64 ct.y) := BX4.cell 5 rfl
          have kc4_6 : c4.cell? ⟨w.heap.size, 6, none⟩ = some (.int .i64 fx.a) := BX4.cell 6 rfl
          have kc4_7 : c4.cell? ⟨w.heap.size, 7, none⟩ = some (.int .i64 fx.b) := BX4.cell 7 rfl
          have kc4_8 : c4.cell? ⟨w.heap.size, 8, none⟩ = some (.int .i64 fx.c) := BX4.cell 8 rfl
          have kc4_9 : c4.cell? ⟨w.heap.size, 9, none⟩ = some (.int .i64 fx.d) := BX4.cell 9 rfl
          have kc4_10 : c4.cell? ⟨w.heap.size, 10, none⟩ = some (.int .i64 fx.x) := BX4.cell 10 rfl
          have kc4_11 : c4.cell? ⟨w.heap.size, 11, none⟩ = some (.int .i64 fx.y) := BX4.cell 11 rfl
          have kc4_12 : c4.cell? ⟨w.heap.size, 12, none⟩ = some (.int .i64 ft) := BX4.cell 12 rfl
          have kc4_13 : c4.cell? ⟨w.heap.size, 13, none⟩ = some (.int .i64 x) := BX4.cell 13 rfl
          have kc4_14 : c4.cell? ⟨w.heap.size, 14, none⟩ = some (.int .i64 y) := BX4.cell 14 rfl
          have kc4_15 : c4.cell? ⟨w.heap.size, 15, none⟩ = some (.bool pl) := BX4.cell 15 rfl
          have kc4_16 : c4.cell? ⟨w.heap.size, 16, none⟩ = some (.bool dk) := BX4.cell 16 rfl
          have kc4_17 : c4.cell? ⟨w.heap.size, 17, none⟩ = some (.int .u8 sg) := BX4.cell 17 rfl
          clear hcut
          obtain ⟨va, vc, hv⟩ := Path.Segs.val HA4.out.sg
          subst hv
          go_wp2
          refine wp_region_held_drew (S := fun w' => Row w' w3.heap.size (rsC C F FM dk n (.slice va T.l.length vc)) ∧ Row w' w4.heap.size #[.int .i64 6553600, .int .i64 6553600, .slice none 0 0, .int .i64 2, .slice none 0 0]) (by kernel_rfl) ?_ (fun hHeld => ?_)
          · exact ⟨Row.drew HA4.out.rs, Row.drew HA4.out.rm⟩
          refine wpAnyH_take (i := 0) (v := ?_) rfl (by kernel_rfl) (by kernel_rfl) (by kernel_rfl) (fun _ _ _ h => h) (Or.inl ⟨by rfl, ?_⟩) (by assumption) ?_
          rotate_left
          · intro w2 hSw
            (try dsimp only at hSw)
            go_simp
            (try (with_reducible rfl))
          (try simp only [Act.put, List.getElem_toArray, List.getElem_cons_zero, List.getElem_cons_succ, List.setIfInBounds_toArray, List.set_cons_zero, List.set_cons_succ])
          refine wpAnyH_take (i := 1) (v := ?_) rfl (by kernel_rfl) (by kernel_rfl) (by kernel_rfl) (fun _ _ _ h => h) (Or.inl ⟨by rfl, ?_⟩) (by assumption) ?_
          rotate_left
          · intro w2 hSw
            (try dsimp only at hSw)
            go_simp
            (try (with_reducible rfl))
          (try simp only [Act.put, List.getElem_toArray, List.getElem_cons_zero, List.getElem_cons_succ, List.setIfInBounds_toArray, List.set_cons_zero, List.set_cons_succ])
          refine wpAnyH_take (i := 4) (v := ?_) rfl (by kernel_rfl) (by kernel_rfl) (by kernel_rfl) (fun _ _ _ h => h) (Or.inl ⟨by rfl, ?_⟩) (by assumption) ?_
          rotate_left
          · intro w2 hSw
            (try dsimp only at hSw)
            go_simp
            (try (with_reducible rfl))
          (try simp only [Act.put, List.getElem_toArray, List.getElem_cons_zero, List.getElem_cons_succ, List.setIfInBounds_toArray, List.set_cons_zero, List.set_cons_succ])
          refine wpAnyH_take (i := 5) (v := ?_) rfl (by kernel_rfl) (by kernel_rfl) (by kernel_rfl) (fun _ _ _ h => h) (Or.inl ⟨by rfl, ?_⟩) (by assumption) ?_
          rotate_left
          · intro w2 hSw
            (try dsimp only at hSw)
            go_simp
            (try (with_reducible rfl))
          (try simp only [Act.put, List.getElem_toArray, List.getElem_cons_zero, List.getElem_cons_succ, List.setIfInBounds_toArray, List.set_cons_zero, List.set_cons_succ])
          refine wpAnyH_take (i := 2) rfl (by kernel_rfl) (by kernel_rfl) (by kernel_rfl) (fun _ _ _ h => h) (yieldsIf_load_mid (by rfl) 42 (.tmp 10) rfl w3.heap.size 0 rfl (rsC C F FM dk n (.slice va T.l.length vc)).toList _ (fun _ h => rng0 h.1) Tryz.underlying42 rfl (by exact infoRs)) (by assumption) ?_
          (try simp only [Act.put, List.getElem_toArray, List.getElem_cons_zero, List.getElem_cons_succ, List.setIfInBounds_toArray, List.set_cons_zero, List.set_cons_succ])
          refine wpAnyH_take (i := 3) rfl (by kernel_rfl) (by kernel_rfl) (by kernel_rfl) (fun _ _ _ h => h) (yieldsIf_load_mid (by rfl) 48 (.tmp 11) rfl w4.heap.size 0 rfl #[.int .i64 6553600, .int .i64 6553600, .slice none 0 0, .int .i64 2, .slice none 0 0].toList _ (fun _ h => rng0 h.2) Tryz.underlying48 rfl (by exact infoCv)) (by assumption) ?_
          (try simp only [Act.put, List.getElem_toArray, List.getElem_cons_zero, List.getElem_cons_succ, List.setIfInBounds_toArray, List.set_cons_zero, List.set_cons_succ])
          refine wpAnyH_ready (rs := [6]) (by decide +kernel) (by simp) ?_
          refine AllReadyH.cons rfl (fun K hK => ?_) AllReadyH.nil
          (try simp only [List.getElem_toArray, List.getElem_cons_zero, List.getElem_cons_succ])
          (rw [if_pos (by rfl)]; refine wp_store_RowS 42 (.tmp 4) (.tmp 66) rfl (w.heap.size + 1) (rsC C F FM dk n (.slice va T.l.length vc)) rfl rfl #[.int .i64 0, .int .i64 0, .int .i64 0, .int .i64 0, .int .i64 0, .int .i64 0, .int .i64 0, .int .i64 0, .int .i64 0, .int .i64 0, .int .i64 0, .int .i64 0, .int .i64 0, .int .i64 0, .int .i64 0, .slice none 0 0, .int .i64 0, .int .i64 0, .int .i64 0, .int .i64 0, .int .i64 0, .int .i64 0, .int .i64 0, .int .i64 0, .slice none 0 0, .bool false, .int .i64 0, .slice none 0 0] (Row.drew HA4.out.z1) infoRs rfl rfl (by simp [rsC, Value.oneCell']) ?_); intro wd hr_wd hc_wd
          refine hK.out _ _ ?_ (fun hHeld => ?_)
          · exact ⟨hHeld.1.chg hc_wd (by simp; omega), hHeld.2.chg hc_wd (by simp; omega)⟩
          clear hK K
          (try simp only [Act.put, List.getElem_toArray, List.getElem_cons_zero, List.getElem_cons_succ, List.setIfInBounds_toArray, List.set_cons_zero, List.set_cons_succ])
          refine wpAnyH_ready (rs := [7]) (by decide +kernel) (by simp) ?_
          refine AllReadyH.cons rfl (fun K hK => ?_) AllReadyH.nil
          (try simp only [List.getElem_toArray, List.getElem_cons_zero, List.getElem_cons_succ])
          (rw [if_pos (by rfl)]; refine wp_store_RowS 48 (.tmp 5) (.tmp 67) rfl (w.heap.size + 1 + 1) #[.int .i64 6553600, .int .i64 6553600, .slice none 0 0, .int .i64 2, .slice none 0 0] rfl rfl #[.int .i64 0, .int .i64 0, .slice none 0 0, .int .i64 0, .slice none 0 0] ((Row.drew HA4.out.z2).chg hc_wd (by simp)) infoCv rfl rfl (by simp [rsC, Value.oneCell']) ?_); intro we hr_we hc_we
          refine hK.out _ _ ?_ (fun hHeld => ?_)
          · exact ⟨hHeld.1.chg hc_we (by simp; omega), hHeld.2.chg hc_we (by simp; omega)⟩
          clear hK K
          (try simp only [Act.put, List.getElem_toArray, List.getElem_cons_zero, List.getElem_cons_succ, List.setIfInBounds_toArray, List.set_cons_zero, List.set_cons_succ])
          refine wpAnyH_done (by kernel_rfl) ?_ _
          (try simp only [Exit.inBlock, Exit.then])
          apply_assumption
          apply wp_ret
          have hcE : Chg [w.heap.size + 1, w.heap.size + 1 + 1] c4 we := ((((Chg.refl [w.heap.size + 1, w.heap.size + 1 + 1] c4).drew).call hc_wd (fun k hk => Or.inl (by simp at hk; simp [hk]))).call hc_we (fun k hk => Or.inl (by simp at hk; simp [hk])))
          refine bodyPost_ret (results_open _ _ g c (w.heap.size + 1) (w.heap.size + 1 + 1) _ _ rfl rfl rfl rfl (hr_wd.chg hc_we (by simp)) rfl hr_we rfl) rfl ?_
          exact ⟨g, p, c, pv, .slice va T.l.length vc, C, F, FM, T, HC.out, HF.out, HFM.out, HTT.out, rfl, HA4.out.gs.chg hcE (by simp; omega), HA4.out.pt.chg hcE (by simp; omega) (fun k hk => by have := HA4.out.po k hk; simp; omega), HA4.out.cv.chg hcE (by simp; omega), HA4.out.sg.chg hcE (fun k hk => by have := HA4.out.so k hk; simp; omega), (HA4.out.up.call hcE (fun k hk => by simp at hk; omega)).up, ⟨by have := ap.g0; omega, by have := ap.p0; omega, ap.pg, ap.gc, ap.pc, fun k hk => by have := HA4.out.po k hk; have := ap.cs; have := ap.sm; omega, fun k hk => by have := HA4.out.so k hk; have := ap.cs; have := ap.sm; omega, HA4.out.pd⟩⟩

theorem open_calls (ct fx : M6) (ft x y : Int) (pl dk : Bool) (sg n : Int) (hsg : 0 ≤ sg) (hn : sg % 10 + 1 = n) (w : World) (hT : Font.Tab w) :
    Calls Tryz.prog 6 #[.agg #[.int .i64 ct.a, .int .i64 ct.b, .int .i64 ct.c, .int .i64 ct.d, .int .i64 ct.x, .int .i64 ct.y, .int .i64 fx.a, .int .i64 fx.b, .int .i64 fx.c, .int .i64 fx.d, .int .i64 fx.x, .int .i64 fx.y, .int .i64 ft, .int .i64 x, .int .i64 y, .bool pl, .bool dk, .int .u8 sg]] w fun E w' => ∃ (g p c : Nat) (pv v : Value) (C : M6) (F : Int) (FM : M6) (T : St), (if chk (lM ct) = 0 then ct else idM) = C ∧ (if sfE ft fx = 0 then ft else -1) = F ∧ (if sfE ft fx = 0 then fx else idM) = FM ∧ (if pl = true then (St.move ⟨n, [], Z, Z⟩ (x, y)).1 else ⟨n, [], Z, Z⟩) = T ∧ E = .returned (.tuple #[.pointer (some ⟨g, 0, none⟩), .pointer (some ⟨c, 0, none⟩), .agg (rsC C F FM dk n v), .agg #[.int .i64 6553600, .int .i64 6553600, .slice none 0 0, .int .i64 2, .slice none 0 0]]) ∧ Row w' g (gsC C 65536 (.slice none 0 0) 0 F FM dk p 2 n) ∧ PathIs w' p pv T ∧ Row w' c #[.int .i64 6553600, .int .i64 6553600, .slice none 0 0, .int .i64 2, .slice none 0 0] ∧ Segs w' v T.l ∧ Up w w' :=
  (open_callsX ct fx ft x y pl dk sg n hsg hn w hT).mono (by
    rintro E w' ⟨g, p, c, pv, v, C, F, FM, T, h1, h2, h3, h4, h5, h6, h7, h8, h9, h10, _⟩
    exact ⟨g, p, c, pv, v, C, F, FM, T, h1, h2, h3, h4, h5, h6, h7, h8, h9, h10⟩)

end Go.Proofs.YtjdbefpfjhdmoaaGreatDoor.Sh