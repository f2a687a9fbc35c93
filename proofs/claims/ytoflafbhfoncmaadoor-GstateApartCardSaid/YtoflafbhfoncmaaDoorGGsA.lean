/- Package gstate: SetWidth, copied, Save, Depth of a state in which nothing is saved and nothing clips. No condition. -/
import Derived.Test.YtoflafbhfoncmaaDoorGS
import Derived.Test.YtoflafbhfoncmaaDoorGX
import Derived.Test.YtoflafbhfoncmaaDoorStepA
import Derived.Deep.RegionLaw
namespace Go.Proofs.YtoflafbhfoncmaaDoor.Gs
open List renaming getElem_toArray → lga, getElem_cons_zero → lgz, getElem_cons_succ → lgs, setIfInBounds_toArray → lsa, set_cons_zero → lsz, set_cons_succ → lss
open Go.ChangeShapes Go.WideShapes Go.RowKit
open Go.Proofs.YtoflafbhfoncmaaDoor.FixM (fits)
open Go.Proofs.YtoflafbhfoncmaaDoor.MatM (M6)
open Go.Proofs.YtoflafbhfoncmaaDoor.PathM
set_option linter.unusedVariables false
set_option linter.unusedSimpArgs false

theorem ints1_row {w : World} {b : Nat} {n : Int} (h : Row w b #[.int .i64 n]) : IntsAt w b 0 [n] := fun i p hp => by
  rw [Nat.zero_add]
  match i with
  | 0 => simp at hp; subst hp; exact h.cell 0 rfl
  | i + 1 => simp at hp
/-- what SetWidth answers -/
def swE (n : Int) : Int := if chk [n] = 0 then (if n < 0 then 11 else 0) else 11

set_option maxRecDepth 8000 in
theorem setWidth_calls (b : Nat) (c : M6) (wd ph fn : Int) (dash : Value) (fm : M6) (dk : Bool) (p : Nat) (most segs : Int) (n : Int) (w : World) (h : Row w b (gsC c wd dash ph fn fm dk p most segs)) :
    Calls Tryd.prog 22 #[.pointer (some ⟨b, 0, none⟩), .int .i64 n] w fun E w' => E = .returned (.int .i64 (swE n)) ∧ Row w' b (gsC c (if swE n = 0 then n else wd) dash ph fn fm dk p most segs) ∧ Chg [b] w w' := by
  have HR := Lib.hid h
  have hlt := h.lt
  clear h
  have hv : chk [n] = 0 ∨ chk [n] = 11 := by unfold chk; split <;> simp
  unfold swE
  rcases hv with hv | hv
  · rw [hv, if_pos rfl]
    cases hn : decide (n < 0)
    · rw [if_neg (of_decide_eq_false hn), if_pos rfl]
      have HV := Lib.hid hv
      clear hv
      go_enter Tryd.func22, Tryd.ntmps22
      go_wp2_with (first
        | (go_at_call 45; ((with_reducible refine (check_calls ⟨b, 0, none⟩ [n] 1 w.heap.size 0 1 rfl _ (by decide) (ints1_row (by (repeat' (with_reducible first | assumption | (refine Row.at _ _ ?_; (simp; done)) | refine Row.alloc ?_ _ | refine Row.drew ?_ | refine Row.drewN ?_ _ | refine Row.other ?_ (by first | (simp; done) | (simp; omega) | omega) _ | refine Row.up ?_ (by assumption) | refine Row.chg ?_ (by assumption) (by first | (simp; done) | (simp; omega)))))) (by simp)).mono ?_); rw [HV.out]; rintro E w1 ⟨rfl, hu1⟩; have z1 := hu1.size; (try simp at z1); have RB := Row.up (show Row _ b (gsC c wd dash ph fn fm dk p most segs) from HR.out.alloc _) hu1; have RB_lt := RB.lt; have rb := RB.cell 11 rfl; have rbf := RB.free 11)))
      go_ret
      exact ⟨rfl, (by apply cast; (case h => (repeat (first | (with_reducible first | assumption | (apply Row.at; (simp; done)) | apply Row.alloc | apply Row.drew | apply Row.drewN | apply Row.set) | ((with_reducible apply Row.other); (case hp => first | (simp; done) | (simp; omega) | omega))))); (case e => rfl)), by (repeat' (first | (with_reducible first | exact Chg.refl _ _ | assumption | refine Chg.alloc ?_ _ | refine Chg.drew ?_ | refine Chg.drewN ?_ _ | refine Chg.setCell ?_ ?_ _ | refine Chg.upc ?_ (by assumption) | refine Chg.call ?_ (by assumption) ?_) | (refine Or.inl ?_; (simp; done)) | (simp; done) | (simp; omega) | omega))⟩
    · rw [if_pos (of_decide_eq_true hn), if_neg (by decide)]
      have HV := Lib.hid hv
      clear hv
      go_enter Tryd.func22, Tryd.ntmps22
      go_wp2_with (first
        | (go_at_call 45; ((with_reducible refine (check_calls ⟨b, 0, none⟩ [n] 1 w.heap.size 0 1 rfl _ (by decide) (ints1_row (by (repeat' (with_reducible first | assumption | (refine Row.at _ _ ?_; (simp; done)) | refine Row.alloc ?_ _ | refine Row.drew ?_ | refine Row.drewN ?_ _ | refine Row.other ?_ (by first | (simp; done) | (simp; omega) | omega) _ | refine Row.up ?_ (by assumption) | refine Row.chg ?_ (by assumption) (by first | (simp; done) | (simp; omega)))))) (by simp)).mono ?_); rw [HV.out]; rintro E w1 ⟨rfl, hu1⟩; have z1 := hu1.size; (try simp at z1); have RB := Row.up (show Row _ b (gsC c wd dash ph fn fm dk p most segs) from HR.out.alloc _) hu1; have RB_lt := RB.lt; have rb := RB.cell 11 rfl; have rbf := RB.free 11)))
      go_ret
      exact ⟨rfl, by (repeat' (with_reducible first | assumption | (refine Row.at _ _ ?_; (simp; done)) | refine Row.alloc ?_ _ | refine Row.drew ?_ | refine Row.drewN ?_ _ | refine Row.other ?_ (by first | (simp; done) | (simp; omega) | omega) _ | refine Row.up ?_ (by assumption) | refine Row.chg ?_ (by assumption) (by first | (simp; done) | (simp; omega)))), by (repeat' (first | (with_reducible first | exact Chg.refl _ _ | assumption | refine Chg.alloc ?_ _ | refine Chg.drew ?_ | refine Chg.drewN ?_ _ | refine Chg.setCell ?_ ?_ _ | refine Chg.upc ?_ (by assumption) | refine Chg.call ?_ (by assumption) ?_) | (refine Or.inl ?_; (simp; done)) | (simp; done) | (simp; omega) | omega))⟩
  · rw [hv, if_neg (by decide), if_neg (by decide)]
    have HV := Lib.hid hv
    clear hv
    go_enter Tryd.func22, Tryd.ntmps22
    go_wp2_with (first
      | (go_at_call 45; ((with_reducible refine (check_calls ⟨b, 0, none⟩ [n] 1 w.heap.size 0 1 rfl _ (by decide) (ints1_row (by (repeat' (with_reducible first | assumption | (refine Row.at _ _ ?_; (simp; done)) | refine Row.alloc ?_ _ | refine Row.drew ?_ | refine Row.drewN ?_ _ | refine Row.other ?_ (by first | (simp; done) | (simp; omega) | omega) _ | refine Row.up ?_ (by assumption) | refine Row.chg ?_ (by assumption) (by first | (simp; done) | (simp; omega)))))) (by simp)).mono ?_); rw [HV.out]; rintro E w1 ⟨rfl, hu1⟩; have z1 := hu1.size; (try simp at z1); have RB := Row.up (show Row _ b (gsC c wd dash ph fn fm dk p most segs) from HR.out.alloc _) hu1; have RB_lt := RB.lt; have rb := RB.cell 11 rfl; have rbf := RB.free 11)))
    go_ret
    exact ⟨rfl, by (repeat' (with_reducible first | assumption | (refine Row.at _ _ ?_; (simp; done)) | refine Row.alloc ?_ _ | refine Row.drew ?_ | refine Row.drewN ?_ _ | refine Row.other ?_ (by first | (simp; done) | (simp; omega) | omega) _ | refine Row.up ?_ (by assumption) | refine Row.chg ?_ (by assumption) (by first | (simp; done) | (simp; omega)))), by (repeat' (first | (with_reducible first | exact Chg.refl _ _ | assumption | refine Chg.alloc ?_ _ | refine Chg.drew ?_ | refine Chg.drewN ?_ _ | refine Chg.setCell ?_ ?_ _ | refine Chg.upc ?_ (by assumption) | refine Chg.call ?_ (by assumption) ?_) | (refine Or.inl ?_; (simp; done)) | (simp; done) | (simp; omega) | omega))⟩

set_option maxRecDepth 8000 in
theorem depth_calls (b : Nat) (s : Option Addr) (n cap : Nat) (w : World) (h : w.cell? ⟨b, 29, none⟩ = some (.slice s n cap)) :
    Calls Tryd.prog 12 #[.pointer (some ⟨b, 0, none⟩)] w fun E w' => E = .returned (.int .i64 n) ∧ w = w' := by
  go_enter Tryd.func12, Tryd.ntmps12
  go_wp2
  go_ret
  exact ⟨rfl, rfl⟩

theorem infoLv : (Tryd.prog.info? 67).map (·.size) = some 27 := by kernel_rfl
theorem results_lv {fn : Func} {i : Nat} (h : fn.results = #[.cell i 67]) (tmps : Array Value) (w : World) (b : Nat) (cs : Array Value) (hr : Row w b cs) (hs : cs.size = 27) (e : tmps.getD i undef = .pointer (some ⟨b, 0, none⟩)) :
    (results fn tmps).run Tryd.prog w = .ok (.agg cs) w := by
  rw [Array.getD_eq_getD_getElem?] at e
  have hl := run_loadAt_mid (P := Tryd.prog) w b 0 67 cs.toList _ (fun j v hj => by rw [Nat.zero_add]; exact hr.cell j (by simpa using hj)) Tryd.underlying67 rfl (by rw [Array.length_toList, hs]; kernel_rfl)
  simp [results, h, go_sem, e] at hl ⊢
  exact hl
theorem load_st {w : World} {b : Nat} {cs : Array Value} {rest : List Value} (h : Row w b (cs ++ rest.toArray)) (hs : cs.size = 26) : (Instr.loadAt 41 (.pointer (some ⟨b, 0, none⟩))).run Tryd.prog w = .ok (.agg cs) w := by
  have := run_loadAt_mid (P := Tryd.prog) w b 0 41 cs.toList _ (fun j v hj => by
    rw [Nat.zero_add]
    refine h.cell j ?_
    have hj2 : cs[j]? = some v := by simpa using hj
    rw [Array.getElem?_append_left (Array.getElem?_eq_some_iff.1 hj2).1]
    exact hj2) Tryd.underlying41 rfl (by rw [Array.length_toList, hs]; kernel_rfl)
  rw [Array.toArray_toList] at this
  exact this
theorem load_lv {w : World} {b : Nat} {cs : Array Value} {rest : List Value} (h : Row w b (cs ++ rest.toArray)) (hs : cs.size = 27) : (Instr.loadAt 67 (.pointer (some ⟨b, 0, none⟩))).run Tryd.prog w = .ok (.agg cs) w := by
  have := run_loadAt_mid (P := Tryd.prog) w b 0 67 cs.toList _ (fun j v hj => by
    rw [Nat.zero_add]
    refine h.cell j ?_
    have hj2 : cs[j]? = some v := by simpa using hj
    rw [Array.getElem?_append_left (Array.getElem?_eq_some_iff.1 hj2).1]
    exact hj2) Tryd.underlying67 rfl (by rw [Array.length_toList, hs]; kernel_rfl)
  rw [Array.toArray_toList] at this
  exact this
theorem wp_store_Row {o : Oper} {a : Act} {w : World} {K : Act → World → Prop} {Q : Exit → Act → World → Prop} (ty : TypeId) (x y : Operand) (ho : o.op = .store ty x y)
    (g : Nat) (cells : Array Value) (hx : a.eval x = .pointer (some ⟨g, 0, none⟩)) (hy : a.eval y = .agg cells)
    (old : Array Value) (hg : Row w g old) {n : Nat} (hi : (Tryd.prog.info? ty).map (·.size) = some n) (hn : cells.size = n)
    (hold : old.size = n) (h1 : cells.all (·.oneCell') = true)
    (h : ∀ w2, Row w2 g cells → Chg [g] w w2 → K (a.put o.dst undef) w2) : Oper.wp Tryd.prog o a w K Q := by
  obtain ⟨t, hb⟩ := hg
  have hr := run_storeVar_row (P := Tryd.prog) w g t ty old cells hb (by rw [hn]; exact hi) (by rw [hn]; exact hold) h1
  have hk := h (w.setRow g cells) ⟨t, setRow_heap w g old cells t (0, 0) hb⟩ ⟨rfl, rfl, rfl, by simp [World.setRow], fun k hk hns => by
    have hne : ¬ g = k := fun e => hns (by simp [e])
    simp [World.setRow, Array.getElem?_modify, hne]⟩
  unfold Oper.wp execOp
  simp only [ho, hx, hy, Instr.storeAt, Instr.sureAddr, Sem.run_bind, Sem.run_pure, Result.andThen_ok, hr]
  exact hk
theorem wp_load_Row {o : Oper} {a : Act} {w : World} {K : Act → World → Prop} {Q : Exit → Act → World → Prop} (ty : TypeId) (x : Operand) (ho : o.op = .load ty x)
    (b : Nat) (hx : a.eval x = .pointer (some ⟨b, 0, none⟩)) (cs : Array Value) (rest : List Value) (h : Row w b (cs ++ rest.toArray)) (d : TypeDesc) (hu : Tryd.prog.underlying ty = some d) (hd : d.isRow = true) {n : Nat} (hi : (Tryd.prog.info? ty).map (·.size) = some n) (hs : cs.size = n)
    (hk : K (a.put o.dst (.agg cs)) w) : Oper.wp Tryd.prog o a w K Q := by
  refine wp_load_mid ty x ho b 0 hx cs.toList d (fun j v hj => ?_) hu hd (by rw [Array.length_toList, hs]; exact hi) (by rw [Array.toArray_toList]; exact hk)
  rw [Nat.zero_add]
  refine h.cell j ?_
  have hj2 : cs[j]? = some v := by simpa using hj
  rw [Array.getElem?_append_left (Array.getElem?_eq_some_iff.1 hj2).1]
  exact hj2
theorem store_lv {w : World} {b : Nat} {old : Array Value} (h : Row w b old) (hs : old.size = 27) (cs : Array Value) (hc : cs.size = 27) (h1 : cs.all (·.oneCell') = true) :
    (Instr.storeAt 67 (.pointer (some ⟨b, 0, none⟩)) (.agg cs)).run Tryd.prog w = .ok () (w.setRow b cs) := by
  obtain ⟨t, hb⟩ := h
  have hr := run_storeVar_row (P := Tryd.prog) w b t 67 old cs hb (by rw [hc]; exact infoLv) (by rw [hc]; exact hs) h1
  simp only [Instr.storeAt, Instr.sureAddr, Sem.run_bind, Sem.run_pure, Result.andThen_ok, hr]
theorem row_set {w : World} {b : Nat} {old cs : Array Value} (h : Row w b old) : Row (w.setRow b cs) b cs := by
  obtain ⟨t, hb⟩ := h
  exact ⟨t, setRow_heap w b old cs t (0, 0) hb⟩
theorem chg_set {w : World} {b : Nat} (cs : Array Value) : Chg [b] w (w.setRow b cs) := by
  refine ⟨rfl, rfl, rfl, by simp [World.setRow], fun k hk hns => ?_⟩
  have hne : ¬ b = k := fun e => hns (by simp [e])
  simp [World.setRow, Array.getElem?_modify, hne]
theorem chg_new {w w1 : World} {b : Nat} {cs : Array Value} (h : Up w w1) (hb : w.heap.size ≤ b) : Chg [] w (w1.setRow b cs) := by
  refine Chg.call (S := []) (Chg.of_up h) (chg_set cs) ?_
  intro k hk
  simp at hk
  subst hk
  first | exact Or.inl hb | exact Or.inr hb | omega
theorem own_callsL (c : M6) (wd ph fn : Int) (fm : M6) (dk : Bool) (w : World) : Calls Tryd.prog 38 #[.agg #[.int .i64 c.a, .int .i64 c.b, .int .i64 c.c, .int .i64 c.d, .int .i64 c.x, .int .i64 c.y, .int .i64 1, .int .i64 0, .int .i64 0, .int .i64 0, .int .i64 0, .int .i64 wd, .int .i64 0, .int .i64 0, .int .i64 655360, .slice none 0 0, .int .i64 ph, .int .i64 fn, .int .i64 fm.a, .int .i64 fm.b, .int .i64 fm.c, .int .i64 fm.d, .int .i64 fm.x, .int .i64 fm.y, .slice none 0 0, .bool dk]] w fun E w' => (∃ gc, w.heap.size ≤ gc ∧ gc < w'.heap.size ∧ E = .returned (.agg #[.int .i64 c.a, .int .i64 c.b, .int .i64 c.c, .int .i64 c.d, .int .i64 c.x, .int .i64 c.y, .int .i64 1, .int .i64 0, .int .i64 0, .int .i64 0, .int .i64 0, .int .i64 wd, .int .i64 0, .int .i64 0, .int .i64 655360, .slice none 0 0, .int .i64 ph, .int .i64 fn, .int .i64 fm.a, .int .i64 fm.b, .int .i64 fm.c, .int .i64 fm.d, .int .i64 fm.x, .int .i64 fm.y, .slice (some ⟨gc, 0, none⟩) 0 0, .bool dk])) ∧ Up w w' := own_calls c wd ph fn fm dk w
def lvC (c : M6) (wd : Int) (dash : Value) (ph fn : Int) (fm : M6) (clips : Value) (dk : Bool) (p : Nat) : Array Value := #[.int .i64 c.a, .int .i64 c.b, .int .i64 c.c, .int .i64 c.d, .int .i64 c.x, .int .i64 c.y, .int .i64 1, .int .i64 0, .int .i64 0, .int .i64 0, .int .i64 0, .int .i64 wd, .int .i64 0, .int .i64 0, .int .i64 655360, dash, .int .i64 ph, .int .i64 fn, .int .i64 fm.a, .int .i64 fm.b, .int .i64 fm.c, .int .i64 fm.d, .int .i64 fm.x, .int .i64 fm.y, clips, .bool dk, .pointer (some ⟨p, 0, none⟩)]

set_option maxRecDepth 8000 in
set_option maxHeartbeats 2000000 in
theorem copied_calls (c : M6) (wd ph fn : Int) (fm : M6) (dk : Bool) (p : Nat) (pv : Value) (t : St) (w : World) (h : Path.PathIs w p pv t) :
    Calls Tryd.prog 40 #[.agg (lvC c wd (.slice none 0 0) ph fn fm (.slice none 0 0) dk p)] w fun E w' => ∃ gc p2, E = .returned (.agg (lvC c wd (.slice none 0 0) ph fn fm (.slice (some ⟨gc, 0, none⟩) 0 0) dk p2)) ∧ Up w w' := by
  have HP := Lib.hid h
  clear h
  show Calls Tryd.prog 40 #[.agg #[.int .i64 c.a, .int .i64 c.b, .int .i64 c.c, .int .i64 c.d, .int .i64 c.x, .int .i64 c.y, .int .i64 1, .int .i64 0, .int .i64 0, .int .i64 0, .int .i64 0, .int .i64 wd, .int .i64 0, .int .i64 0, .int .i64 655360, .slice none 0 0, .int .i64 ph, .int .i64 fn, .int .i64 fm.a, .int .i64 fm.b, .int .i64 fm.c, .int .i64 fm.d, .int .i64 fm.x, .int .i64 fm.y, .slice none 0 0, .bool dk, .pointer (some ⟨p, 0, none⟩)]] w _
  go_enter Tryd.func40, Tryd.ntmps40
  go_wp2
  refine wp_region_held_drew (S := fun w' => w'.cell? ⟨w.heap.size, 26, none⟩ = some (.pointer (some ⟨p, 0, none⟩))) (by kernel_rfl) ?_ (fun hHeld => ?_)
  · simp
  refine wpAnyH_take (i := 0) (v := ?_) rfl (by kernel_rfl) (by kernel_rfl) (by kernel_rfl) (fun _ _ _ h => h) (Or.inl ⟨by rfl, ?_⟩) (by assumption) ?_
  rotate_left
  · intro w2 hSw
    (try dsimp only at hSw)
    go_simp
    (try (with_reducible rfl))
  (simp only [Act.put, lga, lgz, lgs, lsa, lsz, lss])
  refine wpAnyH_take (i := 3) (v := ?_) rfl (by kernel_rfl) (by kernel_rfl) (by kernel_rfl) (fun _ _ _ h => h) (Or.inl ⟨by rfl, ?_⟩) (by assumption) ?_
  rotate_left
  · intro w2 hSw
    (try dsimp only at hSw)
    go_simp
    (try (with_reducible rfl))
  (simp only [Act.put, lga, lgz, lgs, lsa, lsz, lss])
  refine wpAnyH_take (i := 4) (v := ?_) rfl (by kernel_rfl) (by kernel_rfl) (by kernel_rfl) (fun _ _ _ h => h) (Or.inl ⟨by rfl, ?_⟩) (by assumption) ?_
  rotate_left
  · intro w2 hSw
    (try dsimp only at hSw)
    go_simp
    (try (with_reducible rfl))
  (simp only [Act.put, lga, lgz, lgs, lsa, lsz, lss])
  refine wpAnyH_ready (rs := [1]) (by kernel_rfl) (by simp) ?_
  refine AllReadyH.cons rfl (fun K hK => ?_) AllReadyH.nil
  (try simp only [lga, lgz, lgs])
  (rw [if_pos (by rfl)]; refine wp_load_Row 41 (.tmp 3) rfl w.heap.size rfl #[.int .i64 c.a, .int .i64 c.b, .int .i64 c.c, .int .i64 c.d, .int .i64 c.x, .int .i64 c.y, .int .i64 1, .int .i64 0, .int .i64 0, .int .i64 0, .int .i64 0, .int .i64 wd, .int .i64 0, .int .i64 0, .int .i64 655360, .slice none 0 0, .int .i64 ph, .int .i64 fn, .int .i64 fm.a, .int .i64 fm.b, .int .i64 fm.c, .int .i64 fm.d, .int .i64 fm.x, .int .i64 fm.y, .slice none 0 0, .bool dk] [.pointer (some ⟨p, 0, none⟩)] (show Row _ w.heap.size #[.int .i64 c.a, .int .i64 c.b, .int .i64 c.c, .int .i64 c.d, .int .i64 c.x, .int .i64 c.y, .int .i64 1, .int .i64 0, .int .i64 0, .int .i64 0, .int .i64 0, .int .i64 wd, .int .i64 0, .int .i64 0, .int .i64 655360, .slice none 0 0, .int .i64 ph, .int .i64 fn, .int .i64 fm.a, .int .i64 fm.b, .int .i64 fm.c, .int .i64 fm.d, .int .i64 fm.x, .int .i64 fm.y, .slice none 0 0, .bool dk, .pointer (some ⟨p, 0, none⟩)] by (repeat' (with_reducible first | assumption | (refine Row.at _ _ ?_; (simp; done)) | refine Row.alloc ?_ _ | refine Row.drew ?_ | refine Row.drewN ?_ _ | refine Row.other ?_ (by first | (simp; done) | (simp; omega) | omega) _ | refine Row.up ?_ (by assumption) | refine Row.chg ?_ (by assumption) (by first | (simp; done) | (simp; omega))))) _ Tryd.underlying41 rfl infoSt rfl ?_)
  refine hK.out _ _ ?_ (fun hHeld => ?_)
  · exact hHeld
  clear hK K
  (try (simp only [Act.put, lga, lgz, lgs, lsa, lsz, lss]))
  refine wpAnyH_ready (rs := [2]) (by kernel_rfl) (by simp) ?_
  refine AllReadyH.cons rfl (fun K hK => ?_) AllReadyH.nil
  (try simp only [lga, lgz, lgs])
  (go_simp; go_at_call 38; (with_reducible refine (own_callsL c wd ph fn fm dk _).mono ?_); rintro E w1 ⟨⟨gc, hg1, hg2, rfl⟩, hu1⟩; have z1 := hu1.size; (try simp at z1); (try simp at hg1); have RX_w1 : Row w1 w.heap.size #[.int .i64 c.a, .int .i64 c.b, .int .i64 c.c, .int .i64 c.d, .int .i64 c.x, .int .i64 c.y, .int .i64 1, .int .i64 0, .int .i64 0, .int .i64 0, .int .i64 0, .int .i64 wd, .int .i64 0, .int .i64 0, .int .i64 655360, .slice none 0 0, .int .i64 ph, .int .i64 fn, .int .i64 fm.a, .int .i64 fm.b, .int .i64 fm.c, .int .i64 fm.d, .int .i64 fm.x, .int .i64 fm.y, .slice none 0 0, .bool dk, .pointer (some ⟨p, 0, none⟩)] := Row.up (show Row _ w.heap.size #[.int .i64 c.a, .int .i64 c.b, .int .i64 c.c, .int .i64 c.d, .int .i64 c.x, .int .i64 c.y, .int .i64 1, .int .i64 0, .int .i64 0, .int .i64 0, .int .i64 0, .int .i64 wd, .int .i64 0, .int .i64 0, .int .i64 655360, .slice none 0 0, .int .i64 ph, .int .i64 fn, .int .i64 fm.a, .int .i64 fm.b, .int .i64 fm.c, .int .i64 fm.d, .int .i64 fm.x, .int .i64 fm.y, .slice none 0 0, .bool dk, .pointer (some ⟨p, 0, none⟩)] by (repeat' (with_reducible first | assumption | (refine Row.at _ _ ?_; (simp; done)) | refine Row.alloc ?_ _ | refine Row.drew ?_ | refine Row.drewN ?_ _ | refine Row.other ?_ (by first | (simp; done) | (simp; omega) | omega) _ | refine Row.up ?_ (by assumption) | refine Row.chg ?_ (by assumption) (by first | (simp; done) | (simp; omega))))) hu1; have RY_w1 : Row w1 (w.heap.size + 1) #[.int .i64 0, .int .i64 0, .int .i64 0, .int .i64 0, .int .i64 0, .int .i64 0, .int .i64 0, .int .i64 0, .int .i64 0, .int .i64 0, .int .i64 0, .int .i64 0, .int .i64 0, .int .i64 0, .int .i64 0, .slice none 0 0, .int .i64 0, .int .i64 0, .int .i64 0, .int .i64 0, .int .i64 0, .int .i64 0, .int .i64 0, .int .i64 0, .slice none 0 0, .bool false, .pointer none] := Row.up (show Row _ (w.heap.size + 1) #[.int .i64 0, .int .i64 0, .int .i64 0, .int .i64 0, .int .i64 0, .int .i64 0, .int .i64 0, .int .i64 0, .int .i64 0, .int .i64 0, .int .i64 0, .int .i64 0, .int .i64 0, .int .i64 0, .int .i64 0, .slice none 0 0, .int .i64 0, .int .i64 0, .int .i64 0, .int .i64 0, .int .i64 0, .int .i64 0, .int .i64 0, .int .i64 0, .slice none 0 0, .bool false, .pointer none] by (repeat' (with_reducible first | assumption | (refine Row.at _ _ ?_; (simp; done)) | refine Row.alloc ?_ _ | refine Row.drew ?_ | refine Row.drewN ?_ _ | refine Row.other ?_ (by first | (simp; done) | (simp; omega) | omega) _ | refine Row.up ?_ (by assumption) | refine Row.chg ?_ (by assumption) (by first | (simp; done) | (simp; omega))))) hu1; have ld_w1 := load_st (cs := #[.int .i64 c.a, .int .i64 c.b, .int .i64 c.c, .int .i64 c.d, .int .i64 c.x, .int .i64 c.y, .int .i64 1, .int .i64 0, .int .i64 0, .int .i64 0, .int .i64 0, .int .i64 wd, .int .i64 0, .int .i64 0, .int .i64 655360, .slice none 0 0, .int .i64 ph, .int .i64 fn, .int .i64 fm.a, .int .i64 fm.b, .int .i64 fm.c, .int .i64 fm.d, .int .i64 fm.x, .int .i64 fm.y, .slice none 0 0, .bool dk]) (rest := [.pointer (some ⟨p, 0, none⟩)]) RX_w1 rfl; have pc_w1 := RX_w1.cell 26 rfl; (try dsimp only))
  refine hK.out _ _ ?_ (fun hHeld => ?_)
  · exact pc_w1
  clear hK K
  (try (simp only [Act.put, lga, lgz, lgs, lsa, lsz, lss]))
  refine wpAnyH_ready (rs := [5]) (by kernel_rfl) (by simp) ?_
  refine AllReadyH.cons rfl (fun K hK => ?_) AllReadyH.nil
  (try simp only [lga, lgz, lgs])
  (go_simp; go_at_call 56; (with_reducible refine (Path.copy_calls p pv t _ (HP.out.up (by (repeat' (first | (with_reducible first | exact Up.refl _ | assumption | refine Up.alloc ?_ _ | refine Up.drew ?_ | refine Up.drewN ?_ _ | refine Up.setCell ?_ ?_ _ | refine Up.call ?_ (by assumption)) | go_size))))).mono ?_); rintro E w2 ⟨p2, v2, rfl, hb2, hp2, hu2, hv2⟩; have z2 := hu2.size; (try simp at z2); (try simp at hb2); have RX_w2 : Row w2 w.heap.size #[.int .i64 c.a, .int .i64 c.b, .int .i64 c.c, .int .i64 c.d, .int .i64 c.x, .int .i64 c.y, .int .i64 1, .int .i64 0, .int .i64 0, .int .i64 0, .int .i64 0, .int .i64 wd, .int .i64 0, .int .i64 0, .int .i64 655360, .slice none 0 0, .int .i64 ph, .int .i64 fn, .int .i64 fm.a, .int .i64 fm.b, .int .i64 fm.c, .int .i64 fm.d, .int .i64 fm.x, .int .i64 fm.y, .slice none 0 0, .bool dk, .pointer (some ⟨p, 0, none⟩)] := Row.up (show Row _ w.heap.size #[.int .i64 c.a, .int .i64 c.b, .int .i64 c.c, .int .i64 c.d, .int .i64 c.x, .int .i64 c.y, .int .i64 1, .int .i64 0, .int .i64 0, .int .i64 0, .int .i64 0, .int .i64 wd, .int .i64 0, .int .i64 0, .int .i64 655360, .slice none 0 0, .int .i64 ph, .int .i64 fn, .int .i64 fm.a, .int .i64 fm.b, .int .i64 fm.c, .int .i64 fm.d, .int .i64 fm.x, .int .i64 fm.y, .slice none 0 0, .bool dk, .pointer (some ⟨p, 0, none⟩)] by (repeat' (with_reducible first | assumption | (refine Row.at _ _ ?_; (simp; done)) | refine Row.alloc ?_ _ | refine Row.drew ?_ | refine Row.drewN ?_ _ | refine Row.other ?_ (by first | (simp; done) | (simp; omega) | omega) _ | refine Row.up ?_ (by assumption) | refine Row.chg ?_ (by assumption) (by first | (simp; done) | (simp; omega))))) hu2; have RY_w2 : Row w2 (w.heap.size + 1) #[.int .i64 0, .int .i64 0, .int .i64 0, .int .i64 0, .int .i64 0, .int .i64 0, .int .i64 0, .int .i64 0, .int .i64 0, .int .i64 0, .int .i64 0, .int .i64 0, .int .i64 0, .int .i64 0, .int .i64 0, .slice none 0 0, .int .i64 0, .int .i64 0, .int .i64 0, .int .i64 0, .int .i64 0, .int .i64 0, .int .i64 0, .int .i64 0, .slice none 0 0, .bool false, .pointer none] := Row.up (show Row _ (w.heap.size + 1) #[.int .i64 0, .int .i64 0, .int .i64 0, .int .i64 0, .int .i64 0, .int .i64 0, .int .i64 0, .int .i64 0, .int .i64 0, .int .i64 0, .int .i64 0, .int .i64 0, .int .i64 0, .int .i64 0, .int .i64 0, .slice none 0 0, .int .i64 0, .int .i64 0, .int .i64 0, .int .i64 0, .int .i64 0, .int .i64 0, .int .i64 0, .int .i64 0, .slice none 0 0, .bool false, .pointer none] by (repeat' (with_reducible first | assumption | (refine Row.at _ _ ?_; (simp; done)) | refine Row.alloc ?_ _ | refine Row.drew ?_ | refine Row.drewN ?_ _ | refine Row.other ?_ (by first | (simp; done) | (simp; omega) | omega) _ | refine Row.up ?_ (by assumption) | refine Row.chg ?_ (by assumption) (by first | (simp; done) | (simp; omega))))) hu2; have ld_w2 := load_st (cs := #[.int .i64 c.a, .int .i64 c.b, .int .i64 c.c, .int .i64 c.d, .int .i64 c.x, .int .i64 c.y, .int .i64 1, .int .i64 0, .int .i64 0, .int .i64 0, .int .i64 0, .int .i64 wd, .int .i64 0, .int .i64 0, .int .i64 655360, .slice none 0 0, .int .i64 ph, .int .i64 fn, .int .i64 fm.a, .int .i64 fm.b, .int .i64 fm.c, .int .i64 fm.d, .int .i64 fm.x, .int .i64 fm.y, .slice none 0 0, .bool dk]) (rest := [.pointer (some ⟨p, 0, none⟩)]) RX_w2 rfl; have pc_w2 := RX_w2.cell 26 rfl; clear hp2 hv2; (try dsimp only))
  refine hK.out _ _ ?_ (fun hHeld => ?_)
  · exact pc_w2
  clear hK K
  (try (simp only [Act.put, lga, lgz, lgs, lsa, lsz, lss]))
  refine wpAnyH_take (i := 6) (v := ?_) rfl (by kernel_rfl) (by kernel_rfl) (by kernel_rfl) (fun _ _ _ h => h) (Or.inl ⟨by rfl, ?_⟩) (by assumption) ?_
  rotate_left
  · intro w2 hSw
    (try dsimp only at hSw)
    go_simp
    (try (with_reducible rfl))
  (simp only [Act.put, lga, lgz, lgs, lsa, lsz, lss])
  refine wpAnyH_ready (rs := [7]) (by kernel_rfl) (by simp) ?_
  refine AllReadyH.cons rfl (fun K hK => ?_) AllReadyH.nil
  (try simp only [lga, lgz, lgs])
  (rw [if_pos (by rfl)]; refine wp_store_Row 67 (.tmp 2) (.tmp 9) rfl (w.heap.size + 1) #[.int .i64 c.a, .int .i64 c.b, .int .i64 c.c, .int .i64 c.d, .int .i64 c.x, .int .i64 c.y, .int .i64 1, .int .i64 0, .int .i64 0, .int .i64 0, .int .i64 0, .int .i64 wd, .int .i64 0, .int .i64 0, .int .i64 655360, .slice none 0 0, .int .i64 ph, .int .i64 fn, .int .i64 fm.a, .int .i64 fm.b, .int .i64 fm.c, .int .i64 fm.d, .int .i64 fm.x, .int .i64 fm.y, .slice (some ⟨gc, 0, none⟩) 0 0, .bool dk, .pointer (some ⟨p2, 0, none⟩)] rfl rfl #[.int .i64 0, .int .i64 0, .int .i64 0, .int .i64 0, .int .i64 0, .int .i64 0, .int .i64 0, .int .i64 0, .int .i64 0, .int .i64 0, .int .i64 0, .int .i64 0, .int .i64 0, .int .i64 0, .int .i64 0, .slice none 0 0, .int .i64 0, .int .i64 0, .int .i64 0, .int .i64 0, .int .i64 0, .int .i64 0, .int .i64 0, .int .i64 0, .slice none 0 0, .bool false, .pointer none] RY_w2 infoLv rfl rfl (by simp [Value.oneCell']) ?_); intro w9 hr9 hc9
  refine hK.out _ _ ?_ (fun hHeld => ?_)
  · exact (hc9.cells.1 w.heap.size 26 RX_w2.lt (by simp)).trans pc_w2
  clear hK K
  (try (simp only [Act.put, lga, lgz, lgs, lsa, lsz, lss]))
  refine wpAnyH_done (by kernel_rfl) ?_ _
  all_goals go_wp2
  (try simp only [Exit.inBlock, Exit.then])
  refine bodyPost_ret (results_lv rfl _ _ (w.heap.size + 1) _ hr9 rfl rfl) rfl ?_
  exact ⟨_, _, rfl, (show Chg [] w w9 by (repeat' (first | (with_reducible first | exact Chg.refl _ _ | assumption | refine Chg.alloc ?_ _ | refine Chg.drew ?_ | refine Chg.drewN ?_ _ | refine Chg.setCell ?_ ?_ _ | refine Chg.upc ?_ (by assumption) | refine Chg.call ?_ (by assumption) ?_) | (refine Or.inl ?_; (simp; done)) | (simp; done) | (simp; omega) | omega))).up⟩

end Go.Proofs.YtoflafbhfoncmaaDoor.Gs
