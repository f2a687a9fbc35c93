/- Package gstate: own and Now of a state with a dash, without clips. No condition but a length that an append bears. Package gstate: own and Now of a state with a dash, without clips. No condition but a length that an append bears. Package gstate: own and Now of a state with a dash, without clips. No condition but a length that an append bears. Package gstate: own and Now of a state with a dash, without clips. No condition but a length that an append bears. Package gstate: own and Now of a state with a dash, without clips. No condition but a length that an append bears. -/
import Derived.Test.YteddlahklilncaaPp1
import Derived.Test.YteddlahklilncaaPa1
import Derived.Deep.MidRow
import Derived.Deep.Cut
import Derived.Test.YteddlahklilncaaMat3
import Derived.Deep.AppendLies
import Derived.Test.YteddlahklilncaaGB
import Derived.Test.YteddlahklilncaaPathX
import Derived.Test.YteddlahklilncaaPt9
import Derived.Test.YteddlahklilncaaGPa10
section
namespace Go.Proofs.Yteddlahklilncaa.Pp
open Go.ChangeShapes Go.WideShapes Go.ChangeAt Go.RowKit
open Go.Proofs.Yteddlahklilncaa.FixM (fits)
open Go.Proofs.Yteddlahklilncaa.MatM (M6)
open Go.Proofs.Yteddlahklilncaa.PathM (Seg St Z segCells)
open Go.Proofs.Yteddlahklilncaa.Path (own own_mem own_of)
open Go.Proofs.Yteddlahklilncaa.Gs (gsC stC infoSt results_st wpList_load_gs)
open Go.Proofs.Yteddlahklilncaa.Pt (Src cloneInts raw_up)
set_option linter.unusedVariables false
set_option linter.unusedSimpArgs false

theorem cast {w : World} {b : Nat} {cs cs2 : Array Value} (h : Row w b cs) (e : cs = cs2) : Row w b cs2 := e ▸ h
theorem len_own {w : World} {base : Nat} {e : TypeId} {k n : Nat} {v : Value} {xs : List Value} (h : w.ownsRow base e k v n xs) : ∃ ao cap, v = .slice ao n cap := by
  rcases h.2 with ⟨h1, h2⟩ | ⟨g, cap, cur, hv, _⟩
  · subst h1 h2; exact ⟨_, _, rfl⟩
  · exact ⟨_, _, hv⟩
theorem one_ints (zs : List Int) : ∀ u ∈ zs.map (Value.int .i64), u.oneCell' = true := fun u hu => by
  simp only [List.mem_map] at hu
  obtain ⟨z, _, rfl⟩ := hu
  rfl

set_option maxRecDepth 8000 in
set_option maxHeartbeats 1000000 in
theorem own_dash (c : M6) (wd ph fn : Int) (fm : M6) (dk : Bool) (da : Option Addr) (dl dc : Nat) (ds : List Int) (w : World) (hS : Src w (.slice da dl dc) 1 dl (ds.map (Value.int .i64))) (hl : dl ≤ 1000000) :
    Calls Try.prog 45 #[.agg #[.int .i64 c.a, .int .i64 c.b, .int .i64 c.c, .int .i64 c.d, .int .i64 c.x, .int .i64 c.y, .int .i64 1, .int .i64 0, .int .i64 0, .int .i64 0, .int .i64 0, .int .i64 wd, .int .i64 0, .int .i64 0, .int .i64 655360, .slice da dl dc, .int .i64 ph, .int .i64 fn, .int .i64 fm.a, .int .i64 fm.b, .int .i64 fm.c, .int .i64 fm.d, .int .i64 fm.x, .int .i64 fm.y, .slice none 0 0, .bool dk]] w fun E w' => ∃ a8 c8 gc, E = .returned (.agg #[.int .i64 c.a, .int .i64 c.b, .int .i64 c.c, .int .i64 c.d, .int .i64 c.x, .int .i64 c.y, .int .i64 1, .int .i64 0, .int .i64 0, .int .i64 0, .int .i64 0, .int .i64 wd, .int .i64 0, .int .i64 0, .int .i64 655360, .slice a8 dl c8, .int .i64 ph, .int .i64 fn, .int .i64 fm.a, .int .i64 fm.b, .int .i64 fm.c, .int .i64 fm.d, .int .i64 fm.x, .int .i64 fm.y, .slice (some ⟨gc, 0, none⟩) 0 0, .bool dk]) ∧ w'.ownsRow 0 3 1 (.slice a8 dl c8) dl (ds.map (Value.int .i64)) ∧ (∀ g ∈ own (.slice a8 dl c8), w.heap.size ≤ g ∧ g < w'.heap.size) ∧ (w.heap.size ≤ gc ∧ gc < w'.heap.size) ∧ Up w w' := by
  have hmk : ∀ W : World, (Instr.makeSlice 52 (.int .i64 0) (.int .i64 0)).run Try.prog W = .ok (.slice (some ⟨W.heap.size, 0, none⟩) 0 0) (W.alloc (.cells #[] 118)) := fun _ => by kernel_rfl
  have HS := Lib.hid hS
  clear hS
  go_enter Try.func45, Try.ntmps45
  go_wp2_with (first
    | (go_at_call 25; ((with_reducible refine (cloneInts _ _ _ _ (HS.out.up (by (repeat' (first | (with_reducible first | exact Up.refl _ | assumption | refine Up.alloc ?_ _ | refine Up.drew ?_ | refine Up.drewN ?_ _ | refine Up.setCell ?_ ?_ _ | refine Up.call ?_ (by assumption)) | go_size)))) (one_ints _) hl).mono ?_); rintro E w1 ⟨v1, rfl, ho1, hf1, hu1⟩; obtain ⟨a8, c8, rfl⟩ := len_own ho1; have HO1 := Lib.hid ho1; have HF1 := Lib.hid hf1; clear ho1 hf1; have k_w1 := hu1.cells.1; have f_w1 := hu1.cells.2; have z_w1 := hu1.size; (try simp at z_w1); have l0_w1 : w.heap.size < w1.heap.size := (by omega); have l1_w1 : w.heap.size + 1 < w1.heap.size := (by omega); have RX1 : Row w1 w.heap.size #[.int .i64 c.a, .int .i64 c.b, .int .i64 c.c, .int .i64 c.d, .int .i64 c.x, .int .i64 c.y, .int .i64 1, .int .i64 0, .int .i64 0, .int .i64 0, .int .i64 0, .int .i64 wd, .int .i64 0, .int .i64 0, .int .i64 655360, .slice da dl dc, .int .i64 ph, .int .i64 fn, .int .i64 fm.a, .int .i64 fm.b, .int .i64 fm.c, .int .i64 fm.d, .int .i64 fm.x, .int .i64 fm.y, .slice none 0 0, .bool dk] := Row.up (show Row _ w.heap.size #[.int .i64 c.a, .int .i64 c.b, .int .i64 c.c, .int .i64 c.d, .int .i64 c.x, .int .i64 c.y, .int .i64 1, .int .i64 0, .int .i64 0, .int .i64 0, .int .i64 0, .int .i64 wd, .int .i64 0, .int .i64 0, .int .i64 655360, .slice da dl dc, .int .i64 ph, .int .i64 fn, .int .i64 fm.a, .int .i64 fm.b, .int .i64 fm.c, .int .i64 fm.d, .int .i64 fm.x, .int .i64 fm.y, .slice none 0 0, .bool dk] by (repeat' (with_reducible first | assumption | (refine Row.at _ _ ?_; (simp; done)) | refine Row.alloc ?_ _ | refine Row.drew ?_ | refine Row.drewN ?_ _ | refine Row.other ?_ (by first | (simp; done) | (simp; omega) | omega) _ | refine Row.up ?_ (by assumption) | refine Row.chg ?_ (by assumption) (by first | (simp; done) | (simp; omega))))) hu1; have RY1 : Row w1 (w.heap.size + 1) #[.int .i64 0, .int .i64 0, .int .i64 0, .int .i64 0, .int .i64 0, .int .i64 0, .int .i64 0, .int .i64 0, .int .i64 0, .int .i64 0, .int .i64 0, .int .i64 0, .int .i64 0, .int .i64 0, .int .i64 0, .slice none 0 0, .int .i64 0, .int .i64 0, .int .i64 0, .int .i64 0, .int .i64 0, .int .i64 0, .int .i64 0, .int .i64 0, .slice none 0 0, .bool false] := Row.up (show Row _ (w.heap.size + 1) #[.int .i64 0, .int .i64 0, .int .i64 0, .int .i64 0, .int .i64 0, .int .i64 0, .int .i64 0, .int .i64 0, .int .i64 0, .int .i64 0, .int .i64 0, .int .i64 0, .int .i64 0, .int .i64 0, .int .i64 0, .slice none 0 0, .int .i64 0, .int .i64 0, .int .i64 0, .int .i64 0, .int .i64 0, .int .i64 0, .int .i64 0, .int .i64 0, .slice none 0 0, .bool false] by (repeat' (with_reducible first | assumption | (refine Row.at _ _ ?_; (simp; done)) | refine Row.alloc ?_ _ | refine Row.drew ?_ | refine Row.drewN ?_ _ | refine Row.other ?_ (by first | (simp; done) | (simp; omega) | omega) _ | refine Row.up ?_ (by assumption) | refine Row.chg ?_ (by assumption) (by first | (simp; done) | (simp; omega))))) hu1)))
  go_loop [3, 19] (fun s3 s19 => s3 = .slice (some ⟨w1.heap.size, 0, none⟩) 0 0 ∧ s19 = .int .i64 0) (fun _ s19 => 1 - (intOf s19).toNat)
  case atStart => exact ⟨by simp, rfl⟩
  case round =>
    obtain ⟨rfl, rfl⟩ := hrel
    go_wp2_with (first
      | (refine wpList_load_Row rfl 64 (.tmp 1) rfl (w.heap.size) rfl #[.int .i64 c.a, .int .i64 c.b, .int .i64 c.c, .int .i64 c.d, .int .i64 c.x, .int .i64 c.y, .int .i64 1, .int .i64 0, .int .i64 0, .int .i64 0, .int .i64 0, .int .i64 wd, .int .i64 0, .int .i64 0, .int .i64 655360, .slice a8 dl c8, .int .i64 ph, .int .i64 fn, .int .i64 fm.a, .int .i64 fm.b, .int .i64 fm.c, .int .i64 fm.d, .int .i64 fm.x, .int .i64 fm.y, .slice (some ⟨w1.heap.size, 0, none⟩) 0 0, .bool dk] _ (by apply cast; (case h => (repeat (first | (with_reducible first | assumption | (apply Row.at; (simp; done)) | apply Row.alloc | apply Row.drew | apply Row.drewN | apply Row.set) | ((with_reducible apply Row.other); (case hp => first | (simp; done) | (simp; omega) | omega))))); (case e => rfl)) Try.underlying64 rfl infoSt rfl ?_)
      | ((refine wpList_store_Row rfl 64 (.tmp 2) _ rfl (w.heap.size + 1) #[.int .i64 c.a, .int .i64 c.b, .int .i64 c.c, .int .i64 c.d, .int .i64 c.x, .int .i64 c.y, .int .i64 1, .int .i64 0, .int .i64 0, .int .i64 0, .int .i64 0, .int .i64 wd, .int .i64 0, .int .i64 0, .int .i64 655360, .slice a8 dl c8, .int .i64 ph, .int .i64 fn, .int .i64 fm.a, .int .i64 fm.b, .int .i64 fm.c, .int .i64 fm.d, .int .i64 fm.x, .int .i64 fm.y, .slice (some ⟨w1.heap.size, 0, none⟩) 0 0, .bool dk] rfl rfl #[.int .i64 0, .int .i64 0, .int .i64 0, .int .i64 0, .int .i64 0, .int .i64 0, .int .i64 0, .int .i64 0, .int .i64 0, .int .i64 0, .int .i64 0, .int .i64 0, .int .i64 0, .int .i64 0, .int .i64 0, .slice none 0 0, .int .i64 0, .int .i64 0, .int .i64 0, .int .i64 0, .int .i64 0, .int .i64 0, .int .i64 0, .int .i64 0, .slice none 0 0, .bool false] (by (repeat' (with_reducible first | assumption | (refine Row.at _ _ ?_; (simp; done)) | refine Row.alloc ?_ _ | refine Row.drew ?_ | refine Row.drewN ?_ _ | refine Row.other ?_ (by first | (simp; done) | (simp; omega) | omega) _ | refine Row.up ?_ (by assumption) | refine Row.chg ?_ (by assumption) (by first | (simp; done) | (simp; omega))))) infoSt rfl rfl (by simp [Value.oneCell']) ?_); intro w9 hr_w9 hc_w9))
    (try simp only [Exit.inBlock, Exit.then])
    refine bodyPost_ret (results_st rfl _ _ (w.heap.size + 1) #[.int .i64 c.a, .int .i64 c.b, .int .i64 c.c, .int .i64 c.d, .int .i64 c.x, .int .i64 c.y, .int .i64 1, .int .i64 0, .int .i64 0, .int .i64 0, .int .i64 0, .int .i64 wd, .int .i64 0, .int .i64 0, .int .i64 655360, .slice a8 dl c8, .int .i64 ph, .int .i64 fn, .int .i64 fm.a, .int .i64 fm.b, .int .i64 fm.c, .int .i64 fm.d, .int .i64 fm.x, .int .i64 fm.y, .slice (some ⟨w1.heap.size, 0, none⟩) 0 0, .bool dk] (by (repeat' (with_reducible first | assumption | (refine Row.at _ _ ?_; (simp; done)) | refine Row.alloc ?_ _ | refine Row.drew ?_ | refine Row.drewN ?_ _ | refine Row.other ?_ (by first | (simp; done) | (simp; omega) | omega) _ | refine Row.up ?_ (by assumption) | refine Row.chg ?_ (by assumption) (by first | (simp; done) | (simp; omega))))) rfl rfl) rfl ?_
    have hsz := hc_w9.size
    simp at hsz
    have hb : ∀ g ∈ own (.slice a8 dl c8), w.heap.size + 1 + 1 ≤ g ∧ g < w1.heap.size := fun g hg => by
      have := HF1.out g hg
      simp at this
      exact this
    refine ⟨a8, c8, w1.heap.size, rfl, ?_, fun g hg => ⟨by have := (hb g hg).1; omega, by have := (hb g hg).2; omega⟩, ⟨by omega, by omega⟩, (show Chg [] w w9 by (repeat' (first | (with_reducible first | exact Chg.refl _ _ | assumption | refine Chg.alloc ?_ _ | refine Chg.drew ?_ | refine Chg.drewN ?_ _ | refine Chg.setCell ?_ ?_ _ | refine Chg.upc ?_ (by assumption) | refine Chg.call ?_ (by assumption) ?_) | (refine Or.inl ?_; (simp; done)) | (simp; done) | (simp; omega) | omega))).up⟩
    refine owned_chg HO1.out (show Chg [w.heap.size, w.heap.size + 1] w1 w9 by (repeat' (first | (with_reducible first | exact Chg.refl _ _ | assumption | refine Chg.alloc ?_ _ | refine Chg.drew ?_ | refine Chg.drewN ?_ _ | refine Chg.setCell ?_ ?_ _ | refine Chg.upc ?_ (by assumption) | refine Chg.call ?_ (by assumption) ?_) | (refine Or.inl ?_; (simp; done)) | (simp; done) | (simp; omega) | omega))) (fun g hg => ?_)
    have := (hb g (own_mem hg)).1
    simp
    omega

set_option maxRecDepth 8000 in
theorem own_dashS (c : M6) (wd ph fn : Int) (fm : M6) (dk : Bool) (da : Option Addr) (dl dc : Nat) (ds : List Int) (w : World) (hS : Src w (.slice da dl dc) 1 dl (ds.map (Value.int .i64))) (hl : dl ≤ 1000000) :
    Calls Try.prog 45 #[.agg (stC c wd (.slice da dl dc) ph fn fm (.slice none 0 0) dk)] w fun E w' => ∃ a8 c8 gc, E = .returned (.agg #[.int .i64 c.a, .int .i64 c.b, .int .i64 c.c, .int .i64 c.d, .int .i64 c.x, .int .i64 c.y, .int .i64 1, .int .i64 0, .int .i64 0, .int .i64 0, .int .i64 0, .int .i64 wd, .int .i64 0, .int .i64 0, .int .i64 655360, .slice a8 dl c8, .int .i64 ph, .int .i64 fn, .int .i64 fm.a, .int .i64 fm.b, .int .i64 fm.c, .int .i64 fm.d, .int .i64 fm.x, .int .i64 fm.y, .slice (some ⟨gc, 0, none⟩) 0 0, .bool dk]) ∧ w'.ownsRow 0 3 1 (.slice a8 dl c8) dl (ds.map (Value.int .i64)) ∧ (∀ g ∈ own (.slice a8 dl c8), w.heap.size ≤ g ∧ g < w'.heap.size) ∧ (w.heap.size ≤ gc ∧ gc < w'.heap.size) ∧ Up w w' := own_dash c wd ph fn fm dk da dl dc ds w hS hl

set_option maxRecDepth 8000 in
set_option maxHeartbeats 1000000 in
theorem now_dash (b : Nat) (c : M6) (wd ph fn : Int) (fm : M6) (dk : Bool) (p : Nat) (most segs : Int) (da : Option Addr) (dl dc : Nat) (ds : List Int) (w : World) (h : Row w b (gsC c wd (.slice da dl dc) ph fn fm dk p most segs)) (hS : Src w (.slice da dl dc) 1 dl (ds.map (Value.int .i64))) (hl : dl ≤ 1000000) :
    Calls Try.prog 31 #[.pointer (some ⟨b, 0, none⟩)] w fun E w' => ∃ a8 c8 gc, E = .returned (.agg #[.int .i64 c.a, .int .i64 c.b, .int .i64 c.c, .int .i64 c.d, .int .i64 c.x, .int .i64 c.y, .int .i64 1, .int .i64 0, .int .i64 0, .int .i64 0, .int .i64 0, .int .i64 wd, .int .i64 0, .int .i64 0, .int .i64 655360, .slice a8 dl c8, .int .i64 ph, .int .i64 fn, .int .i64 fm.a, .int .i64 fm.b, .int .i64 fm.c, .int .i64 fm.d, .int .i64 fm.x, .int .i64 fm.y, .slice (some ⟨gc, 0, none⟩) 0 0, .bool dk]) ∧ w'.ownsRow 0 3 1 (.slice a8 dl c8) dl (ds.map (Value.int .i64)) ∧ (∀ g ∈ own (.slice a8 dl c8), w.heap.size ≤ g ∧ g < w'.heap.size) ∧ (w.heap.size ≤ gc ∧ gc < w'.heap.size) ∧ Up w w' := by
  have HR := Lib.hid h
  have HS := Lib.hid hS
  have hlt := h.lt
  clear h hS
  go_enter Try.func31, Try.ntmps31
  go_wp2_with (first
    | (refine wpList_load_gs rfl (.tmp 9) rfl b rfl (HR.out.alloc _) ?_)
    | (go_at_call 45; ((with_reducible refine (own_dashS c wd ph fn fm dk da dl dc ds _ (HS.out.up (by (repeat' (first | (with_reducible first | exact Up.refl _ | assumption | refine Up.alloc ?_ _ | refine Up.drew ?_ | refine Up.drewN ?_ _ | refine Up.setCell ?_ ?_ _ | refine Up.call ?_ (by assumption)) | go_size)))) hl).mono ?_); rintro E w1 ⟨a8, c8, gc, rfl, ho1, hf1, ⟨hg1, hg2⟩, hu1⟩; have z1 := hu1.size; (try simp at z1); (try simp at hg1); have HO1 := Lib.hid ho1; have HF1 := Lib.hid hf1; clear ho1 hf1; have RY1 : Row w1 w.heap.size #[.int .i64 0, .int .i64 0, .int .i64 0, .int .i64 0, .int .i64 0, .int .i64 0, .int .i64 0, .int .i64 0, .int .i64 0, .int .i64 0, .int .i64 0, .int .i64 0, .int .i64 0, .int .i64 0, .int .i64 0, .slice none 0 0, .int .i64 0, .int .i64 0, .int .i64 0, .int .i64 0, .int .i64 0, .int .i64 0, .int .i64 0, .int .i64 0, .slice none 0 0, .bool false] := Row.up (show Row _ w.heap.size #[.int .i64 0, .int .i64 0, .int .i64 0, .int .i64 0, .int .i64 0, .int .i64 0, .int .i64 0, .int .i64 0, .int .i64 0, .int .i64 0, .int .i64 0, .int .i64 0, .int .i64 0, .int .i64 0, .int .i64 0, .slice none 0 0, .int .i64 0, .int .i64 0, .int .i64 0, .int .i64 0, .int .i64 0, .int .i64 0, .int .i64 0, .int .i64 0, .slice none 0 0, .bool false] by (repeat' (with_reducible first | assumption | (refine Row.at _ _ ?_; (simp; done)) | refine Row.alloc ?_ _ | refine Row.drew ?_ | refine Row.drewN ?_ _ | refine Row.other ?_ (by first | (simp; done) | (simp; omega) | omega) _ | refine Row.up ?_ (by assumption) | refine Row.chg ?_ (by assumption) (by first | (simp; done) | (simp; omega))))) hu1))
    | ((refine wpList_store_Row rfl 64 (.tmp 2) _ rfl w.heap.size #[.int .i64 c.a, .int .i64 c.b, .int .i64 c.c, .int .i64 c.d, .int .i64 c.x, .int .i64 c.y, .int .i64 1, .int .i64 0, .int .i64 0, .int .i64 0, .int .i64 0, .int .i64 wd, .int .i64 0, .int .i64 0, .int .i64 655360, .slice a8 dl c8, .int .i64 ph, .int .i64 fn, .int .i64 fm.a, .int .i64 fm.b, .int .i64 fm.c, .int .i64 fm.d, .int .i64 fm.x, .int .i64 fm.y, .slice (some ⟨gc, 0, none⟩) 0 0, .bool dk] rfl rfl #[.int .i64 0, .int .i64 0, .int .i64 0, .int .i64 0, .int .i64 0, .int .i64 0, .int .i64 0, .int .i64 0, .int .i64 0, .int .i64 0, .int .i64 0, .int .i64 0, .int .i64 0, .int .i64 0, .int .i64 0, .slice none 0 0, .int .i64 0, .int .i64 0, .int .i64 0, .int .i64 0, .int .i64 0, .int .i64 0, .int .i64 0, .int .i64 0, .slice none 0 0, .bool false] (by (repeat' (with_reducible first | assumption | (refine Row.at _ _ ?_; (simp; done)) | refine Row.alloc ?_ _ | refine Row.drew ?_ | refine Row.drewN ?_ _ | refine Row.other ?_ (by first | (simp; done) | (simp; omega) | omega) _ | refine Row.up ?_ (by assumption) | refine Row.chg ?_ (by assumption) (by first | (simp; done) | (simp; omega))))) infoSt rfl rfl (by simp [Value.oneCell']) ?_); intro w9 hr9 hc9))
  (try simp only [Exit.inBlock, Exit.then])
  refine bodyPost_ret (results_st rfl _ _ w.heap.size _ hr9 rfl rfl) rfl ?_
  have hsz := hc9.size
  have hb : ∀ g ∈ own (.slice a8 dl c8), w.heap.size + 1 ≤ g ∧ g < w1.heap.size := fun g hg => by
    have := HF1.out g hg
    simp at this
    exact this
  refine ⟨a8, c8, gc, rfl, ?_, fun g hg => ⟨by have := (hb g hg).1; omega, by have := (hb g hg).2; omega⟩, ⟨by omega, by omega⟩, (show Chg [] w w9 by (repeat' (first | (with_reducible first | exact Chg.refl _ _ | assumption | refine Chg.alloc ?_ _ | refine Chg.drew ?_ | refine Chg.drewN ?_ _ | refine Chg.setCell ?_ ?_ _ | refine Chg.upc ?_ (by assumption) | refine Chg.call ?_ (by assumption) ?_) | (refine Or.inl ?_; (simp; done)) | (simp; done) | (simp; omega) | omega))).up⟩
  refine owned_chg HO1.out hc9 (fun g hg => ?_)
  have := (hb g (own_mem hg)).1
  simp
  omega

end Go.Proofs.Yteddlahklilncaa.Pp
end

section
namespace Go.Proofs.Yteddlahklilncaa.Pp
open List renaming getElem_toArray → lga, getElem_cons_zero → lgz, getElem_cons_succ → lgs, setIfInBounds_toArray → lsa, set_cons_zero → lsz, set_cons_succ → lss
open Go.ChangeShapes Go.WideShapes Go.ChangeAt Go.RowKit
open Go.Proofs.Yteddlahklilncaa.FixM (fits)
open Go.Proofs.Yteddlahklilncaa.MatM (M6)
open Go.Proofs.Yteddlahklilncaa.PathM (Seg St Z segCells)
open Go.Proofs.Yteddlahklilncaa.Path (own own_mem own_of)
open Go.Proofs.Yteddlahklilncaa.Gs (gsC stC infoSt)
open Go.Proofs.Yteddlahklilncaa.Pt (Src cloneInts raw_up)
set_option linter.unusedVariables false
set_option linter.unusedSimpArgs false

theorem id_ {p : Prop} (h : p) : p := h
/-- the list in the middle of the loop: the first k are scaled -/
def cur (f : Int → Int) (l : List Int) (k : Nat) : List Int := (l.map f).take k ++ l.drop k
theorem cur_len (f : Int → Int) (l : List Int) (k : Nat) (hk : k ≤ l.length) : (cur f l k).length = l.length := by
  simp [cur]; omega
theorem cur_at (f : Int → Int) (l : List Int) (k : Nat) (hk : k < l.length) : (cur f l k)[k]? = some l[k] := by
  have h : ((l.map f).take k).length = k := by simp; omega
  unfold cur
  rw [List.getElem?_append_right (by omega), h, Nat.sub_self, List.getElem?_drop, Nat.add_zero, List.getElem?_eq_getElem hk]
theorem cur_set (f : Int → Int) (l : List Int) (k : Nat) (hk : k < l.length) : (cur f l k).set k (f l[k]) = cur f l (k + 1) := by
  have h : ((l.map f).take k).length = k := by simp; omega
  have hm : (l.map f)[k]'(by simpa using hk) = f l[k] := by simp
  unfold cur
  rw [List.set_append_right _ _ (by omega), h, Nat.sub_self, List.drop_eq_getElem_cons hk, lsz, List.take_succ_eq_append_getElem (by simpa using hk), hm, List.append_assoc]
  rfl
theorem cur_all (f : Int → Int) (l : List Int) : cur f l l.length = l.map f := by
  unfold cur
  rw [List.take_of_length_le (by simp), List.drop_length, List.append_nil]
theorem sum_bound (l : List Int) (h : ∀ z ∈ l, 0 ≤ z ∧ z ≤ 1000000) : 0 ≤ l.sum ∧ l.sum ≤ 1000000 * l.length := by
  induction l with
  | nil => simp
  | cons z l ih =>
    have h1 := h z (by simp)
    have h2 := ih (fun y hy => h y (by simp [hy]))
    simp only [List.sum_cons, List.length_cons]
    push_cast
    omega
def part (f : Int → Int) (ds : List Int) (k : Nat) : Int := ((ds.map f).take (k - 2)).sum
theorem part_bound (f : Int → Int) (ds : List Int) (k : Nat) (h : ∀ z ∈ ds, 0 ≤ f z ∧ f z ≤ 1000000) (hl : ds.length ≤ 1000) : 0 ≤ part f ds k ∧ part f ds k ≤ 1000000000 := by
  have := sum_bound ((ds.map f).take (k - 2)) (fun z hz => by
    have := List.mem_of_mem_take hz
    simp only [List.mem_map] at this
    obtain ⟨y, hy, rfl⟩ := this
    exact h y hy)
  have h2 : ((ds.map f).take (k - 2)).length ≤ 1000 := by simp; omega
  unfold part
  omega
theorem part_low (f : Int → Int) (ds : List Int) (k : Nat) (h : k ≤ 2) : part f ds k = 0 := by
  unfold part
  rw [show k - 2 = 0 by omega]
  rfl
theorem part_succ (f : Int → Int) (wd ph : Int) (ds : List Int) (k : Nat) (h2 : 2 ≤ k) (hk : k < (wd :: ph :: ds).length) : part f ds (k + 1) = part f ds k + f (wd :: ph :: ds)[k] := by
  obtain ⟨j, rfl⟩ : ∃ j, k = j + 2 := ⟨k - 2, by omega⟩
  have hj : j < ds.length := by simpa using hk
  unfold part
  rw [show j + 2 + 1 - 2 = j + 1 by omega, show j + 2 - 2 = j by omega, List.take_succ_eq_append_getElem (by simpa using hj), List.sum_append]
  simp
theorem mem_ds (wd ph : Int) (ds : List Int) (j : Nat) (h : j + 2 < (wd :: ph :: ds).length) : (wd :: ph :: ds)[j + 2] ∈ ds := List.getElem_mem (l := ds) (by simpa using h)
theorem up_new {S : List Nat} {w w1 w2 : World} (hu : Up w w1) (hc : Chg S w1 w2) (hn : ∀ b ∈ S, w.heap.size ≤ b) : Up w w2 := ((Chg.of_up (S := []) hu).call hc (fun k hk => Or.inr (hn k hk))).up
theorem src_of_row {w : World} {base : Nat} {e : TypeId} {g n cap : Nat} {xs : List Value} (h : w.ownsRow base e 1 (.slice (some ⟨g, 0, none⟩) (2 + n) cap) (2 + n) xs) (m : Nat) : Src w (.slice (some ⟨g, 2, none⟩) n m) 1 n (xs.drop 2) := by
  have hl := h.1
  refine ⟨_, _, rfl, by simp; omega, (fun e => by cases e), fun ad e j u hj => ?_⟩
  injection e with e
  subst e
  rw [add_plain]
  have hj2 : xs[2 + j]? = some u := by rw [← hj, List.getElem?_drop]
  rw [h.cellAt (2 + j) (by have := (List.getElem?_eq_some_iff.1 hj2).1; omega)]
  exact hj2
theorem results_sc (tmps : Array Value) (w : World) (b : Nat) (cs : Array Value) (e2 : tmps.getD 2 undef = .pointer (some ⟨b, 0, none⟩)) (e3 : tmps.getD 3 undef = .int .i64 0) (h : Row w b cs) (hs : cs.size = 6) :
    (results Try.f30 tmps).run Try.prog w = .ok (.tuple #[.agg cs, .int .i64 0]) w := by
  rw [Array.getD_eq_getD_getElem?] at e2 e3
  have hl1 := run_loadAt_mid (P := Try.prog) w b 0 38 cs.toList _ (fun j v hj => by rw [Nat.zero_add]; exact h.cell j (by simpa using hj)) Try.underlying38 rfl (by rw [Array.length_toList, hs]; kernel_rfl)
  simp [results, Try.results30, go_sem, e2] at hl1
  simp [results, Try.results30, go_sem, e2, e3, hl1]
theorem st_ctm {W : World} {b : Nat} {c : M6} {wd ph fn : Int} {fm : M6} {dk : Bool} {d8 cv : Value} (h : Row W b #[.int .i64 c.a, .int .i64 c.b, .int .i64 c.c, .int .i64 c.d, .int .i64 c.x, .int .i64 c.y, .int .i64 1, .int .i64 0, .int .i64 0, .int .i64 0, .int .i64 0, .int .i64 wd, .int .i64 0, .int .i64 0, .int .i64 655360, d8, .int .i64 ph, .int .i64 fn, .int .i64 fm.a, .int .i64 fm.b, .int .i64 fm.c, .int .i64 fm.d, .int .i64 fm.x, .int .i64 fm.y, cv, .bool dk]) : W.rangeAt b 0 #[.int .i64 c.a, .int .i64 c.b, .int .i64 c.c, .int .i64 c.d, .int .i64 c.x, .int .i64 c.y].toList := fun j v hj => by
  rw [Nat.zero_add]
  refine h.cell j ?_
  match j, hj with
  | 0, hj => exact hj
  | 1, hj => exact hj
  | 2, hj => exact hj
  | 3, hj => exact hj
  | 4, hj => exact hj
  | 5, hj => exact hj
  | j + 6, hj => simp at hj
theorem st_pen {W : World} {b : Nat} {c : M6} {wd ph fn : Int} {fm : M6} {dk : Bool} {d8 cv : Value} (h : Row W b #[.int .i64 c.a, .int .i64 c.b, .int .i64 c.c, .int .i64 c.d, .int .i64 c.x, .int .i64 c.y, .int .i64 1, .int .i64 0, .int .i64 0, .int .i64 0, .int .i64 0, .int .i64 wd, .int .i64 0, .int .i64 0, .int .i64 655360, d8, .int .i64 ph, .int .i64 fn, .int .i64 fm.a, .int .i64 fm.b, .int .i64 fm.c, .int .i64 fm.d, .int .i64 fm.x, .int .i64 fm.y, cv, .bool dk]) : W.rangeAt b 11 #[.int .i64 wd, .int .i64 0, .int .i64 0, .int .i64 655360, d8, .int .i64 ph].toList := fun j v hj => by
  refine h.cell (11 + j) ?_
  match j, hj with
  | 0, hj => exact hj
  | 1, hj => exact hj
  | 2, hj => exact hj
  | 3, hj => exact hj
  | 4, hj => exact hj
  | 5, hj => exact hj
  | j + 6, hj => simp at hj
theorem infoPen : (Try.prog.info? 38).map (·.size) = some 6 := by kernel_rfl

set_option maxRecDepth 8000 in
set_option maxHeartbeats 2000000 in
theorem scaled_ok (c : M6) (wd ph fn : Int) (fm : M6) (dk : Bool) (da : Option Addr) (dl dc : Nat) (ca : Option Addr) (cl cc : Nat) (ds : List Int) (s : Int) (f : Int → Int) (w : World)
    (hS : Src w (.slice da dl dc) 1 dl (ds.map (Value.int .i64))) (hN : ds.length = dl) (hl : dl ≤ 1000) (hsc : MatM.scale c.a c.b c.c c.d = (s, 0)) (hm : ∀ z ∈ wd :: ph :: ds, FixM.mul z s = (f z, 0)) (hf : ∀ z ∈ ds, 0 ≤ f z ∧ f z ≤ 1000000) (hz : 0 < dl → (ds.map f).sum ≠ 0) :
    Calls Try.prog 30 #[.agg #[.int .i64 c.a, .int .i64 c.b, .int .i64 c.c, .int .i64 c.d, .int .i64 c.x, .int .i64 c.y, .int .i64 1, .int .i64 0, .int .i64 0, .int .i64 0, .int .i64 0, .int .i64 wd, .int .i64 0, .int .i64 0, .int .i64 655360, .slice da dl dc, .int .i64 ph, .int .i64 fn, .int .i64 fm.a, .int .i64 fm.b, .int .i64 fm.c, .int .i64 fm.d, .int .i64 fm.x, .int .i64 fm.y, .slice ca cl cc, .bool dk]] w fun E w' => ∃ ao cap, E = .returned (.tuple #[.agg #[.int .i64 (f wd), .int .i64 0, .int .i64 0, .int .i64 655360, .slice ao dl (cap - 2), .int .i64 (f ph)], .int .i64 0]) ∧ Src w' (.slice ao dl (cap - 2)) 1 dl ((ds.map f).map (Value.int .i64)) ∧ Up w w' := by
  obtain ⟨i0, hi, hz0, hz1, hz2⟩ := Pt.info_parts3 Pt.infoI1
  have HS := Lib.hid hS
  have HSC := Lib.hid hsc
  have HM := Lib.hid hm
  have HF := Lib.hid hf
  have HZ := Lib.hid hz
  have HN := Lib.hid hN
  clear hS hsc hm hf hz hN
  go_enter Try.func30, Try.ntmps30
  go_upto_region 6 with (first
    | (refine wpList_load_mid rfl 32 (.tmp 14) rfl (w.heap.size) 0 rfl #[.int .i64 c.a, .int .i64 c.b, .int .i64 c.c, .int .i64 c.d, .int .i64 c.x, .int .i64 c.y].toList _ (st_ctm (show Row _ w.heap.size #[.int .i64 c.a, .int .i64 c.b, .int .i64 c.c, .int .i64 c.d, .int .i64 c.x, .int .i64 c.y, .int .i64 1, .int .i64 0, .int .i64 0, .int .i64 0, .int .i64 0, .int .i64 wd, .int .i64 0, .int .i64 0, .int .i64 655360, .slice da dl dc, .int .i64 ph, .int .i64 fn, .int .i64 fm.a, .int .i64 fm.b, .int .i64 fm.c, .int .i64 fm.d, .int .i64 fm.x, .int .i64 fm.y, .slice ca cl cc, .bool dk] by (repeat' (with_reducible first | assumption | (refine Row.at _ _ ?_; (simp; done)) | refine Row.alloc ?_ _ | refine Row.drew ?_ | refine Row.drewN ?_ _ | refine Row.other ?_ (by first | (simp; done) | (simp; omega) | omega) _ | refine Row.up ?_ (by assumption) | refine Row.chg ?_ (by assumption) (by first | (simp; done) | (simp; omega)))))) Try.underlying32 rfl (by kernel_rfl) ?_)
    | (go_at_call 43; ((with_reducible refine (Mat3.scale_calls c.a c.b c.c c.d c.x c.y _).mono ?_); rw [HSC.out]; rintro E w1 ⟨rfl, hu1⟩; have z1 := hu1.size; (try simp at z1); have RP1 : Row w1 (w.heap.size + 1 + 1) #[.int .i64 wd, .int .i64 0, .int .i64 0, .int .i64 655360, .slice da dl dc, .int .i64 ph] := Row.up (show Row _ (w.heap.size + 1 + 1) #[.int .i64 wd, .int .i64 0, .int .i64 0, .int .i64 655360, .slice da dl dc, .int .i64 ph] by (repeat' (with_reducible first | assumption | (refine Row.at _ _ ?_; (simp; done)) | refine Row.alloc ?_ _ | refine Row.drew ?_ | refine Row.drewN ?_ _ | refine Row.other ?_ (by first | (simp; done) | (simp; omega) | omega) _ | refine Row.up ?_ (by assumption) | refine Row.chg ?_ (by assumption) (by first | (simp; done) | (simp; omega))))) hu1; have RO1 : Row w1 (w.heap.size + 1) #[.int .i64 0, .int .i64 0, .int .i64 0, .int .i64 0, .slice none 0 0, .int .i64 0] := Row.up (show Row _ (w.heap.size + 1) #[.int .i64 0, .int .i64 0, .int .i64 0, .int .i64 0, .slice none 0 0, .int .i64 0] by (repeat' (with_reducible first | assumption | (refine Row.at _ _ ?_; (simp; done)) | refine Row.alloc ?_ _ | refine Row.drew ?_ | refine Row.drewN ?_ _ | refine Row.other ?_ (by first | (simp; done) | (simp; omega) | omega) _ | refine Row.up ?_ (by assumption) | refine Row.chg ?_ (by assumption) (by first | (simp; done) | (simp; omega))))) hu1)))
  have RP1l := RP1.lt
  have RO1l := RO1.lt
  have q0 := RP1.cell 0 rfl
  have q4 := RP1.cell 4 rfl
  have q5 := RP1.cell 5 rfl
  have HU1 := Lib.hid hu1
  obtain ⟨L, hL⟩ : ∃ L, wd :: ph :: ds = L := ⟨_, rfl⟩
  have hLN : L.length = 2 + dl := by rw [← hL, ← HN.out]; simp; omega
  have HD : Hid (Src w1 (.slice da dl dc) 1 dl (ds.map (Value.int .i64))) := Lib.hid (HS.out.up (by (repeat' (first | (with_reducible first | exact Up.refl _ | assumption | refine Up.alloc ?_ _ | refine Up.drew ?_ | refine Up.drewN ?_ _ | refine Up.setCell ?_ ?_ _ | refine Up.call ?_ (by assumption)) | go_size))))
  obtain ⟨ao, ac, hde, hdl, hdn, hdc⟩ := id_ HD.out
  obtain ⟨rfl, rfl⟩ : da = ao ∧ dc = ac := by simp only [Value.slice.injEq] at hde; exact ⟨hde.1, hde.2.2⟩
  clear hde
  have HDC := Lib.hid hdc
  clear hdc
  go_wp2_with (at_builtin; refine wpList_append_any rfl _ _ 34 rfl w1.heap.size 3 i0 _ 1 8 Try.underlying34 hi hz0 hz1 hz2 rfl (by decide) (.slice (some ⟨w1.heap.size, 0, none⟩) 2 2) 2 [.int .i64 wd, .int .i64 ph] rfl (World.ownsRow_lit w1 #[.int .i64 wd, .int .i64 ph] 2 (Nat.le_refl _) (by decide) rfl) da dl dc (ds.map (Value.int .i64)) rfl hdl hdn (fun ad2 e j u hj => Pt.cell_up (Up.alloc (Up.refl w1) _) (HDC.out ad2 e j u hj)) (one_ints _) (by unfold maxLen; omega) (by omega) (by simp) ?_; intro v4 w4 hown hgr hnil; have hu4 : Up w1 w4 := grown_up (Up.alloc (Up.refl w1) _) hgr (fun k0 hk0 => by have h4 : w1.heap.size = k0 := (by injection hk0); omega); obtain ⟨g, cap, rfl, hbg, hg4⟩ := World.ownsRow.form hown (by omega); have HO4 := Lib.hid hown; clear hgr hown hnil)
  have z4 := hu4.size
  have HRP := Lib.hid (RP1.up hu4)
  have HRO := Lib.hid (RO1.up hu4)
  have HU4 := Lib.hid hu4
  have HOC : Hid (w4.ownsRow w1.heap.size 3 1 (.slice (some ⟨g, 0, none⟩) (2 + dl) cap) (2 + dl) ((cur f L 0).map (Value.int .i64))) := Lib.hid (by
    have := HO4.out
    rw [show (cur f L 0).map (Value.int .i64) = [Value.int .i64 wd, Value.int .i64 ph] ++ ds.map (Value.int .i64) by rw [← hL]; rfl]
    exact this)
  clear RP1 RO1 q0 q4 q5 hu4 hu1 HO4
  go_loopw [7, 33] (fun s7 s33 wr => ∃ k : Nat, k ≤ 2 + dl ∧ s7 = .int .i64 (part f ds k) ∧ s33 = .int .i64 k ∧ Hid (wr.ownsRow w1.heap.size 3 1 (.slice (some ⟨g, 0, none⟩) (2 + dl) cap) (2 + dl) ((cur f L k).map (Value.int .i64))) ∧ Chg [g] w4 wr) (fun _ s33 _ => 2 + dl - (intOf s33).toNat)
  case atStart => exact ⟨0, by omega, by rw [part_low _ _ _ (by omega)], rfl, HOC, Chg.refl _ _⟩
  case round =>
    obtain ⟨k, hk, rfl, rfl, HOR, hcr⟩ := hrel
    have hgl : g < wr.heap.size := Nat.lt_of_lt_of_le hg4 hcr.size
    have HCR := Lib.hid hcr
    clear hcr
    by_cases hlt : k < 2 + dl
    · have hkL : k < L.length := by omega
      obtain ⟨x, hx⟩ : ∃ x, L[k] = x := ⟨_, rfl⟩
      have HMX := Lib.hid (HM.out x (by rw [hL, ← hx]; exact List.getElem_mem hkL))
      have qc : wr.cell? ⟨g, k, none⟩ = some (.int .i64 x) := by rw [HOR.out.cellAt k (by omega), List.getElem?_map, cur_at f L k hkL, hx]; rfl
      have qf := HOR.out.frozenAt k
      have HST : Hid (∀ w5, Up wr w5 → (w5.setCell ⟨g, k, none⟩ (.int .i64 (f x))).ownsRow w1.heap.size 3 1 (.slice (some ⟨g, 0, none⟩) (2 + dl) cap) (2 + dl) ((cur f L (k + 1)).map (Value.int .i64))) := Lib.hid (fun w5 hu5 => by
        have h5 := ((raw_up HOR.out hu5).stored k (.int .i64 (f x))).1
        rwa [← List.map_set, show (cur f L k).set k (f x) = cur f L (k + 1) by rw [← hx]; exact cur_set f L k hkL] at h5)
      have hpb := part_bound f ds k HF.out (by rw [HN.out]; exact hl)
      by_cases h1 : 1 < k
      · have hxd : x ∈ ds := by
          obtain ⟨j, rfl⟩ : ∃ j, k = j + 2 := ⟨k - 2, by omega⟩
          subst hL
          rw [← hx]
          exact mem_ds wd ph ds j hkL
        have hfx := HF.out x hxd
        have HPS : Hid (part f ds (k + 1) = part f ds k + f x) := Lib.hid (by rw [← hx]; subst hL; exact part_succ f wd ph ds k (by omega) hkL)
        clear hx hxd
        go_wp2_with (go_at_call 44; ((with_reducible refine (Fix.mul_calls x s _).mono ?_); rw [HMX.out]; rintro E w5 ⟨rfl, hu5⟩; have HU5 := Lib.hid hu5; have qc5 := (hu5.cells.1 g k hgl).trans qc; have qf5 := (hu5.cells.2 g k hgl).trans qf; have hg5 : g < w5.heap.size := Nat.lt_of_lt_of_le hgl hu5.size))
        go_roundw
        case rel => exact ⟨k + 1, by omega, by rw [HPS.out], by go_num, Lib.hid (HST.out _ HU5.out), by have := HCR.out; (repeat' (first | (with_reducible first | exact Chg.refl _ _ | assumption | refine Chg.alloc ?_ _ | refine Chg.drew ?_ | refine Chg.drewN ?_ _ | refine Chg.setCell ?_ ?_ _ | refine Chg.upc ?_ (by assumption) | refine Chg.call ?_ (by assumption) ?_) | (refine Or.inl ?_; (simp; done)) | (simp; done) | (simp; omega) | omega))⟩
        case measure => simp [intOf]; omega
      · have HPS : Hid (part f ds (k + 1) = part f ds k) := Lib.hid (by rw [part_low _ _ _ (by omega), part_low _ _ _ (by omega)])
        clear hx
        go_wp2_with (go_at_call 44; ((with_reducible refine (Fix.mul_calls x s _).mono ?_); rw [HMX.out]; rintro E w5 ⟨rfl, hu5⟩; have HU5 := Lib.hid hu5; have qc5 := (hu5.cells.1 g k hgl).trans qc; have qf5 := (hu5.cells.2 g k hgl).trans qf; have hg5 : g < w5.heap.size := Nat.lt_of_lt_of_le hgl hu5.size))
        go_roundw
        case rel => exact ⟨k + 1, by omega, by rw [HPS.out], by go_num, Lib.hid (HST.out _ HU5.out), by have := HCR.out; (repeat' (first | (with_reducible first | exact Chg.refl _ _ | assumption | refine Chg.alloc ?_ _ | refine Chg.drew ?_ | refine Chg.drewN ?_ _ | refine Chg.setCell ?_ ?_ _ | refine Chg.upc ?_ (by assumption) | refine Chg.call ?_ (by assumption) ?_) | (refine Or.inl ?_; (simp; done)) | (simp; done) | (simp; omega) | omega))⟩
        case measure => simp [intOf]; omega
    · obtain rfl : k = 2 + dl := by omega
      have HALL : Hid (wr.ownsRow w1.heap.size 3 1 (.slice (some ⟨g, 0, none⟩) (2 + dl) cap) (2 + dl) ((L.map f).map (Value.int .i64))) := Lib.hid (by
        have := HOR.out
        rwa [← hLN, cur_all, hLN] at this)
      have RPr : Row wr (w.heap.size + 1 + 1) #[.int .i64 wd, .int .i64 0, .int .i64 0, .int .i64 655360, .slice da dl dc, .int .i64 ph] := Row.chg HRP.out HCR.out (by simp; omega)
      have ROr : Row wr (w.heap.size + 1) #[.int .i64 0, .int .i64 0, .int .i64 0, .int .i64 0, .slice none 0 0, .int .i64 0] := Row.chg HRO.out HCR.out (by simp; omega)
      have hcap : 2 + dl ≤ cap := by
        rcases HALL.out.2 with ⟨h1, _⟩ | ⟨_, _, _, h1, _, _, h2, _⟩
        · cases h1
        · injection h1 with _ _ h1; omega
      have g0 : wr.cell? ⟨g, 0, none⟩ = some (.int .i64 (f wd)) := by rw [HALL.out.cellAt 0 (by omega)]; subst hL; rfl
      have g1 : wr.cell? ⟨g, 1, none⟩ = some (.int .i64 (f ph)) := by rw [HALL.out.cellAt 1 (by omega)]; subst hL; rfl
      have gf0 := HALL.out.frozenAt 0
      have gf1 := HALL.out.frozenAt 1
      have j2 : (2 : Int) ≤ 2 + (dl : Int) := by omega
      obtain ⟨ao, hao⟩ : ∃ ao : Option Addr, (if cap = 2 then some ⟨g, 0, none⟩ else some ⟨g, 2, none⟩) = ao := ⟨_, rfl⟩
      have HSRC : Hid (∀ w9, Chg [w.heap.size + 1, w.heap.size + 1 + 1] wr w9 → Src w9 (.slice ao dl (cap - 2)) 1 dl ((ds.map f).map (Value.int .i64))) := Lib.hid (fun w9 hc9 => by
        have h9 := owned_chg (Pt.owned_new HALL.out).1 hc9 (fun g' hg' => by simp only [Value.ownBlock, Option.some.injEq] at hg'; subst hg'; simp; omega)
        have := src_of_row h9 (cap - 2)
        subst hL
        by_cases h2 : cap = 2
        · rw [if_pos h2] at hao
          have hd : dl = 0 := by omega
          subst hao
          have hn : ds = [] := List.eq_nil_of_length_eq_zero (by rw [HN.out]; exact hd)
          subst hn
          refine ⟨_, _, rfl, by simp; exact hd.symm, (fun e => by cases e), fun ad e j u hj => by simp at hj⟩
        · rw [if_neg h2] at hao
          subst hao
          simpa using this)
      have rpl := RPr.lt
      have rol := ROr.lt
      have p0 := RPr.cell 0 rfl
      have p1 := RPr.cell 1 rfl
      have p2 := RPr.cell 2 rfl
      have p3 := RPr.cell 3 rfl
      have p4 := RPr.cell 4 rfl
      have p5 := RPr.cell 5 rfl
      have pf0 := RPr.free 0
      have pf4 := RPr.free 4
      have pf5 := RPr.free 5
      have j0 : (0 : Int) < 2 + (dl : Int) := by omega
      have j1 : (1 : Int) < 2 + (dl : Int) := by omega
      go_wp2
      have KS : ∀ (W : World) (j : Nat) (u : Value), (W.cell? ⟨g, 0, none⟩ = some (.int .i64 (f wd)) ∧ W.cell? ⟨g, 1, none⟩ = some (.int .i64 (f ph))) → ((W.setCell ⟨w.heap.size + 1 + 1, j, none⟩ u).cell? ⟨g, 0, none⟩ = some (.int .i64 (f wd)) ∧ (W.setCell ⟨w.heap.size + 1 + 1, j, none⟩ u).cell? ⟨g, 1, none⟩ = some (.int .i64 (f ph))) := fun W j u h => ⟨(World.cell?_setCell_other W _ _ u (fun e => by injection e; omega)).trans h.1, (World.cell?_setCell_other W _ _ u (fun e => by injection e; omega)).trans h.2⟩
      refine wp_region_held_drew (S := fun w' => w'.cell? ⟨g, 0, none⟩ = some (.int .i64 (f wd)) ∧ w'.cell? ⟨g, 1, none⟩ = some (.int .i64 (f ph))) (by kernel_rfl) ?_ (fun hHeld => ?_)
      · exact ⟨g0, g1⟩
      refine wpAnyH_take (i := 0) (v := ?_) rfl (by decide +kernel) (by decide +kernel) (by decide +kernel) (fun _ _ _ h => h) (Or.inl ⟨by rfl, ?_⟩) (by assumption) ?_
      rotate_left
      · intro w2 hSw
        (try dsimp only at hSw)
        go_simp
        (try (with_reducible rfl))
      (try simp only [Act.put, lga, lgz, lgs, lsa, lsz, lss])
      refine wpAnyH_take (i := 1) (v := ?_) rfl (by decide +kernel) (by decide +kernel) (by decide +kernel) (fun _ _ _ h => h) (Or.inl ⟨by rfl, ?_⟩) (by assumption) ?_
      rotate_left
      · intro w2 hSw
        (try dsimp only at hSw)
        go_simp
        (try (with_reducible rfl))
      (try simp only [Act.put, lga, lgz, lgs, lsa, lsz, lss])
      refine wpAnyH_take (i := 2) (v := ?_) rfl (by decide +kernel) (by decide +kernel) (by decide +kernel) (fun _ _ _ h => h) (Or.inl ⟨by rfl, ?_⟩) (by assumption) ?_
      rotate_left
      · intro w2 hSw
        (try dsimp only at hSw)
        go_simp
        (try (with_reducible rfl))
      (try simp only [Act.put, lga, lgz, lgs, lsa, lsz, lss])
      refine wpAnyH_take (i := 3) (v := ?_) rfl (by decide +kernel) (by decide +kernel) (by decide +kernel) (fun _ _ _ h => h) (Or.inl ⟨by rfl, ?_⟩) (by assumption) ?_
      rotate_left
      · intro w2 hSw
        (try dsimp only at hSw)
        go_simp
        (try (with_reducible rfl))
      (try simp only [Act.put, lga, lgz, lgs, lsa, lsz, lss])
      refine wpAnyH_take (i := 4) (v := ?_) rfl (by decide +kernel) (by decide +kernel) (by decide +kernel) (fun _ _ _ h => h) (Or.inl ⟨by rfl, ?_⟩) (by assumption) ?_
      rotate_left
      · intro w2 hSw
        (try dsimp only at hSw)
        go_simp
        (try (with_reducible rfl))
      (try simp only [Act.put, lga, lgz, lgs, lsa, lsz, lss])
      refine wpAnyH_take (i := 5) (v := ?_) rfl (by decide +kernel) (by decide +kernel) (by decide +kernel) (fun _ _ _ h => h) (Or.inl ⟨by rfl, ?_⟩) (by assumption) ?_
      rotate_left
      · intro w2 hSw
        (try dsimp only at hSw)
        go_simp
        (try (with_reducible rfl))
      (try simp only [Act.put, lga, lgz, lgs, lsa, lsz, lss])
      refine wpAnyH_take (i := 6) (v := ?_) rfl (by decide +kernel) (by decide +kernel) (by decide +kernel) (fun _ _ _ h => h) (Or.inl ⟨by rfl, ?_⟩) (by assumption) ?_
      rotate_left
      · intro w2 hSw
        (try dsimp only at hSw)
        go_simp
        (try (with_reducible rfl))
      (try simp only [Act.put, lga, lgz, lgs, lsa, lsz, lss])
      refine wpAnyH_take (i := 7) (v := ?_) rfl (by decide +kernel) (by decide +kernel) (by decide +kernel) (fun _ _ _ h => h) (Or.inl ⟨by rfl, ?_⟩) (by assumption) ?_
      rotate_left
      · intro w2 hSw
        (try dsimp only at hSw)
        go_simp
        (try (with_reducible rfl))
      (try simp only [Act.put, lga, lgz, lgs, lsa, lsz, lss])
      refine wpAnyH_take (i := 8) (v := ?_) rfl (by decide +kernel) (by decide +kernel) (by decide +kernel) (fun _ _ _ h => h) (Or.inl ⟨by rfl, ?_⟩) (by assumption) ?_
      rotate_left
      · intro w2 hSw
        (try dsimp only at hSw)
        go_simp
        (try (with_reducible rfl))
      (try simp only [Act.put, lga, lgz, lgs, lsa, lsz, lss])
      refine wpAnyH_ready (rs := [9]) (by decide +kernel) (by simp) ?_
      refine AllReadyH.cons rfl (fun K hK => ?_) (AllReadyH.nil)
      (try simp only [lga, lgz, lgs])
      (go_simp)
      refine hK.out _ _ ?_ (fun hHeld => ?_)
      · exact KS _ _ _ hHeld
      clear hK K
      (try simp only [Act.put, lga, lgz, lgs, lsa, lsz, lss])
      refine wpAnyH_take (i := 10) (v := ?_) rfl (by decide +kernel) (by decide +kernel) (by decide +kernel) (fun _ _ _ h => h) (Or.inl ⟨by rfl, ?_⟩) (by assumption) ?_
      rotate_left
      · intro w2 hSw
        (try dsimp only at hSw)
        go_simp
        (try (with_reducible rfl))
      (try simp only [Act.put, lga, lgz, lgs, lsa, lsz, lss])
      refine wpAnyH_ready (rs := [11]) (by decide +kernel) (by simp) ?_
      refine AllReadyH.cons rfl (fun K hK => ?_) (AllReadyH.nil)
      (try simp only [lga, lgz, lgs])
      (go_simp)
      refine hK.out _ _ ?_ (fun hHeld => ?_)
      · exact KS _ _ _ hHeld
      clear hK K
      (try simp only [Act.put, lga, lgz, lgs, lsa, lsz, lss])
      refine wpAnyH_take (i := 12) (v := ?_) rfl (by decide +kernel) (by decide +kernel) (by decide +kernel) (fun _ _ _ h => h) (Or.inl ⟨by rfl, ?_⟩) (by assumption) ?_
      rotate_left
      · intro w2 hSw
        (try dsimp only at hSw)
        go_simp
        (try (with_reducible rfl))
      (try simp only [Act.put, lga, lgz, lgs, lsa, lsz, lss])
      refine wpAnyH_ready (rs := [13]) (by decide +kernel) (by simp) ?_
      refine AllReadyH.cons rfl (fun K hK => ?_) (AllReadyH.nil)
      (try simp only [lga, lgz, lgs])
      (go_simp)
      refine hK.out _ _ ?_ (fun hHeld => ?_)
      · exact KS _ _ _ hHeld
      clear hK K
      (try simp only [Act.put, lga, lgz, lgs, lsa, lsz, lss])
      refine wpAnyH_done (by decide +kernel) ?_ _
      have cc9 : True := trivial
      generalize hW : World.setCell (World.setCell (World.setCell _ _ _) _ _) _ _ = w9
      have RP9 : Row w9 (w.heap.size + 1 + 1) #[.int .i64 (f wd), .int .i64 0, .int .i64 0, .int .i64 655360, .slice ao dl (cap - 2), .int .i64 (f ph)] := by rw [← hW]; exact (by apply cast; (case h => (repeat (first | (with_reducible first | assumption | (apply Row.at; (simp; done)) | apply Row.alloc | apply Row.drew | apply Row.drewN | apply Row.set) | ((with_reducible apply Row.other); (case hp => first | (simp; done) | (simp; omega) | omega))))); (case e => rfl))
      have RO9 : Row w9 (w.heap.size + 1) #[.int .i64 0, .int .i64 0, .int .i64 0, .int .i64 0, .slice none 0 0, .int .i64 0] := by rw [← hW]; (repeat' (with_reducible first | assumption | (refine Row.at _ _ ?_; (simp; done)) | refine Row.alloc ?_ _ | refine Row.drew ?_ | refine Row.drewN ?_ _ | refine Row.other ?_ (by first | (simp; done) | (simp; omega) | omega) _ | refine Row.up ?_ (by assumption) | refine Row.chg ?_ (by assumption) (by first | (simp; done) | (simp; omega))))
      have C9 : Chg [w.heap.size + 1, w.heap.size + 1 + 1] wr w9 := by rw [← hW]; (repeat' (first | (with_reducible first | exact Chg.refl _ _ | assumption | refine Chg.alloc ?_ _ | refine Chg.drew ?_ | refine Chg.drewN ?_ _ | refine Chg.setCell ?_ ?_ _ | refine Chg.upc ?_ (by assumption) | refine Chg.call ?_ (by assumption) ?_) | (refine Or.inl ?_; (simp; done)) | (simp; done) | (simp; omega) | omega))
      clear hW
      have z9 := C9.size
      have rp9 := RP9.lt
      have ro9 := RO9.lt
      have e0 := RP9.cell 0 rfl
      have e4 := RP9.cell 4 rfl
      have HC9 := Lib.hid C9
      clear C9 p0 p1 p2 p3 p4 p5 pf0 pf4 pf5 g0 g1 gf0 gf1 RPr ROr
      have hfin : ∀ w10, Chg [w.heap.size + 1] w9 w10 → Src w10 (.slice ao dl (cap - 2)) 1 dl ((ds.map f).map (Value.int .i64)) ∧ Up w w10 := fun w10 hc10 => by
        have hr10 : Chg [w.heap.size + 1, w.heap.size + 1 + 1] wr w10 := HC9.out.call hc10 (fun k hk => Or.inl (by simp at hk; simp [hk]))
        refine ⟨HSRC.out _ hr10, ?_⟩
        have hw4 : Up w w4 := (show Chg [] w w4 from (by have := HU1.out; have := HU4.out; (repeat' (first | (with_reducible first | exact Chg.refl _ _ | assumption | refine Chg.alloc ?_ _ | refine Chg.drew ?_ | refine Chg.drewN ?_ _ | refine Chg.setCell ?_ ?_ _ | refine Chg.upc ?_ (by assumption) | refine Chg.call ?_ (by assumption) ?_) | (refine Or.inl ?_; (simp; done)) | (simp; done) | (simp; omega) | omega)))).up
        have hwr : Up w wr := up_new hw4 HCR.out (fun b hb => by simp at hb; omega)
        exact up_new hwr hr10 (fun b hb => by simp at hb; omega)
      by_cases h0 : 0 < dl
      · have hs0 : (part f ds (2 + dl) == 0) = false := by
          have := HZ.out h0
          unfold part
          rw [show 2 + dl - 2 = dl by omega, List.take_of_length_le (by rw [List.length_map, HN.out]; exact Nat.le_refl _)]
          simpa using this
        have hd0 : decide (0 < dl) = true := decide_eq_true h0
        go_wp2_with (first
          | (refine wpList_load_Row rfl 38 (.tmp 4) rfl (w.heap.size + 1 + 1) rfl #[.int .i64 (f wd), .int .i64 0, .int .i64 0, .int .i64 655360, .slice ao dl (cap - 2), .int .i64 (f ph)] _ RP9 Try.underlying38 rfl infoPen rfl ?_)
          | ((refine wpList_store_Row rfl 38 (.tmp 2) _ rfl (w.heap.size + 1) #[.int .i64 (f wd), .int .i64 0, .int .i64 0, .int .i64 655360, .slice ao dl (cap - 2), .int .i64 (f ph)] rfl rfl #[.int .i64 0, .int .i64 0, .int .i64 0, .int .i64 0, .slice none 0 0, .int .i64 0] RO9 infoPen rfl rfl (by simp [Value.oneCell']) ?_); intro w10 hr10 hc10))
        (try simp only [Exit.inBlock, Exit.then])
        exact bodyPost_ret (results_sc _ _ (w.heap.size + 1) #[.int .i64 (f wd), .int .i64 0, .int .i64 0, .int .i64 655360, .slice ao dl (cap - 2), .int .i64 (f ph)] rfl rfl hr10 rfl) rfl ⟨ao, cap, rfl, hfin w10 ((Chg.of_up (S := [w.heap.size + 1]) (Up.drew (Up.refl w9))).call hc10 (fun k hk => Or.inl hk))⟩
      · have hd0 : decide (0 < dl) = false := decide_eq_false h0
        go_wp2_with (first
          | (refine wpList_load_Row rfl 38 (.tmp 4) rfl (w.heap.size + 1 + 1) rfl #[.int .i64 (f wd), .int .i64 0, .int .i64 0, .int .i64 655360, .slice ao dl (cap - 2), .int .i64 (f ph)] _ RP9 Try.underlying38 rfl infoPen rfl ?_)
          | ((refine wpList_store_Row rfl 38 (.tmp 2) _ rfl (w.heap.size + 1) #[.int .i64 (f wd), .int .i64 0, .int .i64 0, .int .i64 655360, .slice ao dl (cap - 2), .int .i64 (f ph)] rfl rfl #[.int .i64 0, .int .i64 0, .int .i64 0, .int .i64 0, .slice none 0 0, .int .i64 0] RO9 infoPen rfl rfl (by simp [Value.oneCell']) ?_); intro w10 hr10 hc10))
        (try simp only [Exit.inBlock, Exit.then])
        exact bodyPost_ret (results_sc _ _ (w.heap.size + 1) #[.int .i64 (f wd), .int .i64 0, .int .i64 0, .int .i64 655360, .slice ao dl (cap - 2), .int .i64 (f ph)] rfl rfl hr10 rfl) rfl ⟨ao, cap, rfl, hfin w10 ((Chg.of_up (S := [w.heap.size + 1]) (Up.drew (Up.refl w9))).call hc10 (fun k hk => Or.inl hk))⟩

end Go.Proofs.Yteddlahklilncaa.Pp
end

section
namespace Go.Proofs.Yteddlahklilncaa.Pp
open Go.ChangeShapes Go.WideShapes Go.ChangeAt Go.RowKit
open Go.Proofs.Yteddlahklilncaa.FixM (fits)
open Go.Proofs.Yteddlahklilncaa.MatM (M6)
open Go.Proofs.Yteddlahklilncaa.PathM (Seg St Z segCells)
open Go.Proofs.Yteddlahklilncaa.Path (own own_mem own_of)
open Go.Proofs.Yteddlahklilncaa.Gs (gsC stC infoSt path_calls)
open Go.Proofs.Yteddlahklilncaa.Pt (Src cloneInts raw_up)
set_option linter.unusedVariables false
set_option linter.unusedSimpArgs false

theorem mem_own {v : Value} {g : Nat} (h : g ∈ own v) : v.ownBlock = some g := own_of h
theorem item_lt {w : World} {i : Pt.Item} (h : Pt.ItemO w i) : ∀ b ∈ i.bl, b < w.heap.size := fun b hb => by
  simp only [Pt.Item.bl, List.mem_append, List.mem_flatMap] at hb
  rcases hb with hb | hb | hb | hb | ⟨c, hc, hb⟩
  · exact (h.pv.lt b (own_of hb)).2
  · exact (h.bv.lt b (own_of hb)).2
  · exact (h.dv.lt b (own_of hb)).2
  · exact (h.cv.lt b (own_of hb)).2
  · exact ((h.cs c hc).lt b (own_of hb)).2
theorem one_low {w : World} {base b2 g cap : Nat} {i : Pt.Item} (h : Pt.One1 w base g cap i) (hb : b2 ≤ base) : Pt.One1 w b2 g cap i := ⟨Pt.ownsRow_low h.row hb, h.it, h.ne, fun b hb2 => ⟨Nat.le_trans hb (h.lo b hb2).1, (h.lo b hb2).2⟩⟩
theorem src_row {w : World} {base : Nat} {e : TypeId} {v : Value} {n : Nat} {xs : List Value} (h : w.ownsRow base e 1 v n xs) : Src w v 1 n xs := by
  have hl := h.1
  rcases h.2 with ⟨rfl, h0⟩ | ⟨g, cap, cur, rfl, _⟩
  · exact ⟨none, 0, by rw [h0], hl, fun _ => ⟨h0, rfl⟩, fun ad e => by cases e⟩
  · refine ⟨_, _, rfl, hl, (fun e => by cases e), fun ad e j u hj => ?_⟩
    injection e with e
    subst e
    exact h.cells (g := g) rfl j u hj
theorem infoCol : (Try.prog.info? 51).map (·.size) = some 5 := by kernel_rfl
theorem st_col {W : World} {b : Nat} {c : M6} {wd ph fn : Int} {fm : M6} {dk : Bool} {d8 cv : Value} (h : Row W b #[.int .i64 c.a, .int .i64 c.b, .int .i64 c.c, .int .i64 c.d, .int .i64 c.x, .int .i64 c.y, .int .i64 1, .int .i64 0, .int .i64 0, .int .i64 0, .int .i64 0, .int .i64 wd, .int .i64 0, .int .i64 0, .int .i64 655360, d8, .int .i64 ph, .int .i64 fn, .int .i64 fm.a, .int .i64 fm.b, .int .i64 fm.c, .int .i64 fm.d, .int .i64 fm.x, .int .i64 fm.y, cv, .bool dk]) : W.rangeAt b 6 #[.int .i64 1, .int .i64 0, .int .i64 0, .int .i64 0, .int .i64 0].toList := fun j v hj => by
  refine h.cell (6 + j) ?_
  match j, hj with
  | 0, hj => exact hj
  | 1, hj => exact hj
  | 2, hj => exact hj
  | 3, hj => exact hj
  | 4, hj => exact hj
  | j + 5, hj => simp at hj

/-- what a stroke lays -/
def strokeD (l : List Seg) (wd2 ph2 : Int) (ds2 : List Int) : Pt.Dat := ⟨3, l, (1, 0, 0, 0, 0), [], (wd2, 0, 0, 655360), ds2, ph2, 0, ⟨0, 0, 0, 0, 0, 0⟩, []⟩
def itS (v1 : Value) (l : List Seg) (gc : Nat) (wd2 ph2 : Int) (d2 : Option Addr) (n2 c2 : Nat) (ds2 : List Int) : Pt.Item := ⟨3, v1, l, 1, 0, 0, 0, 0, .slice (some ⟨gc, 0, none⟩) 0 0, [], wd2, 0, 0, 655360, .slice d2 n2 c2, ds2, ph2, 0, ⟨0, 0, 0, 0, 0, 0⟩, .slice none 0 0, []⟩
theorem itS_dat (v1 : Value) (l : List Seg) (gc : Nat) (wd2 ph2 : Int) (d2 : Option Addr) (n2 c2 : Nat) (ds2 : List Int) : (itS v1 l gc wd2 ph2 d2 n2 c2 ds2).dat = strokeD l wd2 ph2 ds2 := rfl
theorem itS_a {w : World} {v1 : Value} {l : List Seg} {gc : Nat} {wd2 ph2 : Int} {d2 : Option Addr} {n2 c2 : Nat} {ds2 : List Int} (h1 : Path.Segs w v1 l) (h2 : Src w (.slice d2 n2 c2) 1 n2 (ds2.map (Value.int .i64))) (hn : ds2.length = n2) (hw : ∀ z ∈ ds2, (Lit.int .i64 z).wf = true) (hg : gc < w.heap.size) : Pt.ItemA w (itS v1 l gc wd2 ph2 d2 n2 c2 ds2) := by
  subst hn
  refine ⟨Pt.src_segV h1, ⟨none, 0, rfl, rfl, fun _ => ⟨rfl, rfl⟩, fun ad e => by cases e⟩, h2, ⟨some ⟨gc, 0, none⟩, 0, 0, rfl, ?_⟩, fun c hc => by simp [itS] at hc, hw, fun z hz => by simp [itS] at hz⟩
  exact ⟨Nat.le_refl _, by decide, rfl, fun e => (by cases e), fun h => absurd h (by decide)⟩

theorem at_op {P : Program} {ops : Array Oper} {rest : List Oper} {o : Oper} {a : Act} {w : World} {Q : Exit → Act → World → Prop} (op : Op) (ho : o.op = op) (h : wpList P ops Q (o :: rest) a w) : wpList P ops Q (o :: rest) a w := h
set_option maxRecDepth 8000 in
theorem lay_stroke (W H n : Int) (cn : Nat) (a1 : Option Addr) (N c1 : Nat) (l : List Seg) (gc : Nat) (wd2 ph2 : Int) (d2 : Option Addr) (n2 c2 : Nat) (ds2 : List Int) (w : World) (hr : Row w cn #[.int .i64 W, .int .i64 H, .slice none 0 0, .int .i64 n, .slice none 0 0]) (hs : Path.Segs w (.slice a1 N c1) l) (hN : l.length = N) (h1 : N ≤ 1000)
    (hd2 : Src w (.slice d2 n2 c2) 1 n2 (ds2.map (Value.int .i64))) (hn2 : ds2.length = n2) (hl2 : n2 ≤ 1000) (hw2 : ∀ z ∈ ds2, (Lit.int .i64 z).wf = true) (hg : gc < w.heap.size) :
    Calls Try.prog 47 #[.pointer (some ⟨cn, 0, none⟩), .agg #[.int .i64 3, .slice a1 N c1, .int .i64 1, .int .i64 0, .int .i64 0, .int .i64 0, .int .i64 0, .slice (some ⟨gc, 0, none⟩) 0 0, .int .i64 wd2, .int .i64 0, .int .i64 0, .int .i64 655360, .slice d2 n2 c2, .int .i64 ph2, .int .i64 0, .int .i64 0, .int .i64 0, .int .i64 0, .int .i64 0, .int .i64 0, .int .i64 0, .slice none 0 0]] w fun E w' => E = .returned (.int .i64 0) ∧ ∃ j : Pt.Item, j.dat = strokeD l wd2 ph2 ds2 ∧ ∃ g cap : Nat, Row w' cn #[.int .i64 W, .int .i64 H, .slice (some ⟨g, 0, none⟩) 1 cap, .int .i64 n, .slice none 0 0] ∧ Pt.One1 w' w.heap.size g cap j ∧ Chg [cn] w w' := by
  have hA := itS_a (wd2 := wd2) (ph2 := ph2) hs hd2 hn2 hw2 hg
  have hL : Pt.Lens (strokeD l wd2 ph2 ds2) := ⟨by simp [strokeD]; omega, by simp [strokeD], by simp [strokeD]; omega, by simp [strokeD], fun c hc => by simp [strokeD] at hc⟩
  refine (Pt.lay_first 3 a1 N c1 1 0 0 0 0 (some ⟨gc, 0, none⟩) 0 0 wd2 0 0 655360 d2 n2 c2 ph2 0 ⟨0, 0, 0, 0, 0, 0⟩ none 0 0 l [] ds2 [] W H n cn w hr hA hL hN rfl hn2).mono ?_
  rintro E w' ⟨rfl, j, hj, g, cap, h1, h2, h3, h4, h5⟩
  exact ⟨rfl, j, hj, g, cap, h1, ⟨h3, h2, fun b hb => (h4 b hb).2, fun b hb => ⟨(h4 b hb).1, item_lt h2 b hb⟩⟩, h5⟩

theorem state_facts {c : M6} {wd ph fn : Int} {fm : M6} {a8 : Option Addr} {dl c8 gc : Nat} (cs : Array Value) (h : #[.int .i64 c.a, .int .i64 c.b, .int .i64 c.c, .int .i64 c.d, .int .i64 c.x, .int .i64 c.y, .int .i64 1, .int .i64 0, .int .i64 0, .int .i64 0, .int .i64 0, .int .i64 wd, .int .i64 0, .int .i64 0, .int .i64 655360, .slice a8 dl c8, .int .i64 ph, .int .i64 fn, .int .i64 fm.a, .int .i64 fm.b, .int .i64 fm.c, .int .i64 fm.d, .int .i64 fm.x, .int .i64 fm.y, .slice (some ⟨gc, 0, none⟩) 0 0, .bool false] = cs) : (cs.size = 26 ∧ cs.all (·.oneCell') = true) ∧ ∀ (W : World) (b : Nat), Row W b cs → W.cell? ⟨b, 25, none⟩ = some (.bool false) ∧ W.cell? ⟨b, 24, none⟩ = some (.slice (some ⟨gc, 0, none⟩) 0 0) ∧ W.cell? ⟨b, 6, none⟩ = some (.int .i64 1) ∧ W.cell? ⟨b, 7, none⟩ = some (.int .i64 0) ∧ W.cell? ⟨b, 8, none⟩ = some (.int .i64 0) ∧ W.cell? ⟨b, 9, none⟩ = some (.int .i64 0) ∧ W.cell? ⟨b, 10, none⟩ = some (.int .i64 0) := by
  subst h
  exact ⟨⟨rfl, by simp [Value.oneCell']⟩, fun W b R => ⟨R.cell 25 rfl, R.cell 24 rfl, R.cell 6 rfl, R.cell 7 rfl, R.cell 8 rfl, R.cell 9 rfl, R.cell 10 rfl⟩⟩

set_option maxRecDepth 8000 in
set_option maxHeartbeats 2000000 in
theorem paint_first (W H n : Int) (cn gb pb : Nat) (c : M6) (wd ph fn : Int) (fm : M6) (most segs : Int) (da : Option Addr) (dl dc : Nat) (ds : List Int) (pv : Value) (t : St) (N : Nat) (wd2 ph2 : Int) (d2 : Option Addr) (n2 c2 : Nat) (ds2 : List Int) (w : World)
    (hr : Row w cn #[.int .i64 W, .int .i64 H, .slice none 0 0, .int .i64 n, .slice none 0 0]) (hg : Row w gb (gsC c wd (.slice da dl dc) ph fn fm false pb most segs)) (hS : Src w (.slice da dl dc) 1 dl (ds.map (Value.int .i64))) (hl : dl ≤ 1000) (hp : Path.PathIs w pb pv t) (hN : t.l.length = N) (h0 : 0 < N) (h1 : N ≤ 1000)
    (hd2 : Src w (.slice d2 n2 c2) 1 n2 (ds2.map (Value.int .i64))) (hn2 : ds2.length = n2) (hl2 : n2 ≤ 1000) (hw2 : ∀ z ∈ ds2, (Lit.int .i64 z).wf = true) (hcg : gb ≠ cn) (hcp : pb ≠ cn) (hgp : gb ≠ pb) (hpo : ∀ g, pv.ownBlock = some g → g ≠ cn) :
    Calls Try.prog 32 #[.pointer (some ⟨cn, 0, none⟩), .pointer (some ⟨gb, 0, none⟩), .int .i64 3, .agg #[.int .i64 wd2, .int .i64 0, .int .i64 0, .int .i64 655360, .slice d2 n2 c2, .int .i64 ph2]] w fun E w' => E = .returned (.int .i64 0) ∧ ∃ j : Pt.Item, j.dat = strokeD t.l wd2 ph2 ds2 ∧ ∃ g cap : Nat, Row w' cn #[.int .i64 W, .int .i64 H, .slice (some ⟨g, 0, none⟩) 1 cap, .int .i64 n, .slice none 0 0] ∧ Pt.One1 w' w.heap.size g cap j ∧ Chg [cn, pb] w w' := by
  have HR := Lib.hid hr
  have HG := Lib.hid hg
  have HS := Lib.hid hS
  have HP := Lib.hid hp
  have HD2 := Lib.hid hd2
  have HN := Lib.hid hN
  have HW2 := Lib.hid hw2
  have HPO := Lib.hid hpo
  have lcn := hr.lt
  have lgb := hg.lt
  have lpb := hp.row.lt
  have g26 : w.cell? ⟨gb, 26, none⟩ = some (.pointer (some ⟨pb, 0, none⟩)) := hg.cell 26 rfl
  clear hr hg hS hp hd2 hN hw2 hpo
  have hd0 : decide (0 < N) = true := decide_eq_true h0
  go_enter Try.func32, Try.ntmps32
  go_wp2_with (first
    | (go_at_call 10; ((with_reducible refine (Gs.path_calls gb pb _ (HG4.out.cell 26 rfl)).mono ?_); rintro E w0 ⟨rfl, rfl⟩))
    | (go_at_call 10; ((with_reducible refine (Gs.path_calls gb pb _ ((HG.out.up (by (repeat' (first | (with_reducible first | exact Up.refl _ | assumption | refine Up.alloc ?_ _ | refine Up.drew ?_ | refine Up.drewN ?_ _ | refine Up.setCell ?_ ?_ _ | refine Up.call ?_ (by assumption)) | go_size)))).cell 26 rfl)).mono ?_); rintro E w0 ⟨rfl, rfl⟩))
    | (go_at_call 46; ((with_reducible refine (Path.segments_calls pb pv t _ (HP.out.up (by (repeat' (first | (with_reducible first | exact Up.refl _ | assumption | refine Up.alloc ?_ _ | refine Up.drew ?_ | refine Up.drewN ?_ _ | refine Up.setCell ?_ ?_ _ | refine Up.call ?_ (by assumption)) | go_size))))).mono ?_); rintro E w1 ⟨v1, rfl, hs1, hu1, -⟩; obtain ⟨a1, c1, rfl⟩ := Path.Segs.val hs1; rw [HN.out] at hs1 ⊢; have z1 := hu1.size; (try simp at z1); have HS1 := Lib.hid hs1; have HU1 := Lib.hid (show Up w w1 from (by (repeat' (first | (with_reducible first | exact Up.refl _ | assumption | refine Up.alloc ?_ _ | refine Up.drew ?_ | refine Up.drewN ?_ _ | refine Up.setCell ?_ ?_ _ | refine Up.call ?_ (by assumption)) | go_size)))); have RB1 : Row w1 w.heap.size #[.int .i64 wd2, .int .i64 0, .int .i64 0, .int .i64 655360, .slice d2 n2 c2, .int .i64 ph2] := Row.up (show Row _ w.heap.size #[.int .i64 wd2, .int .i64 0, .int .i64 0, .int .i64 655360, .slice d2 n2 c2, .int .i64 ph2] from (by (repeat' (with_reducible first | assumption | (refine Row.at _ _ ?_; (simp; done)) | refine Row.alloc ?_ _ | refine Row.drew ?_ | refine Row.drewN ?_ _ | refine Row.other ?_ (by first | (simp; done) | (simp; omega) | omega) _ | refine Row.up ?_ (by assumption) | refine Row.chg ?_ (by assumption) (by first | (simp; done) | (simp; omega)))))) hu1; clear hs1))
    | (go_at_call 31; ((with_reducible refine (now_dash gb c wd ph fn fm false pb most segs da dl dc ds _ (HG.out.up HU1.out) (HS.out.up HU1.out) (by omega)).mono ?_); rintro E w2 ⟨a8, c8, gc, rfl, -, -, hgc, hu2⟩; have z2 := hu2.size; have HU2 := Lib.hid hu2; have HGC := Lib.hid hgc.2; clear hgc; have RB2 := RB1.up hu2; obtain ⟨cs, hcs⟩ : ∃ cs : Array Value, #[.int .i64 c.a, .int .i64 c.b, .int .i64 c.c, .int .i64 c.d, .int .i64 c.x, .int .i64 c.y, .int .i64 1, .int .i64 0, .int .i64 0, .int .i64 0, .int .i64 0, .int .i64 wd, .int .i64 0, .int .i64 0, .int .i64 655360, .slice a8 dl c8, .int .i64 ph, .int .i64 fn, .int .i64 fm.a, .int .i64 fm.b, .int .i64 fm.c, .int .i64 fm.d, .int .i64 fm.x, .int .i64 fm.y, .slice (some ⟨gc, 0, none⟩) 0 0, .bool false] = cs := ⟨_, rfl⟩; have hq := state_facts cs hcs; rw [hcs]; clear hcs; have HQ := Lib.hid hq.2; obtain ⟨hsz, h1c⟩ := hq.1; clear hq;))
    | ((refine wpList_store_Row rfl 64 (.tmp 10) _ rfl w2.heap.size cs rfl rfl #[.int .i64 0, .int .i64 0, .int .i64 0, .int .i64 0, .int .i64 0, .int .i64 0, .int .i64 0, .int .i64 0, .int .i64 0, .int .i64 0, .int .i64 0, .int .i64 0, .int .i64 0, .int .i64 0, .int .i64 0, .slice none 0 0, .int .i64 0, .int .i64 0, .int .i64 0, .int .i64 0, .int .i64 0, .int .i64 0, .int .i64 0, .int .i64 0, .slice none 0 0, .bool false] (by (repeat' (with_reducible first | assumption | (refine Row.at _ _ ?_; (simp; done)) | refine Row.alloc ?_ _ | refine Row.drew ?_ | refine Row.drewN ?_ _ | refine Row.other ?_ (by first | (simp; done) | (simp; omega) | omega) _ | refine Row.up ?_ (by assumption) | refine Row.chg ?_ (by assumption) (by first | (simp; done) | (simp; omega))))) infoSt hsz rfl h1c ?_); intro w3 hr3 hc3; have z3 := hc3.size; have l3 := hr3.lt; obtain ⟨k25, k24, k6, k7, k8, k9, k10⟩ := HQ.out w3 _ hr3; have RB3 : Row w3 w.heap.size #[.int .i64 wd2, .int .i64 0, .int .i64 0, .int .i64 655360, .slice d2 n2 c2, .int .i64 ph2] := Row.chg (show Row _ w.heap.size #[.int .i64 wd2, .int .i64 0, .int .i64 0, .int .i64 655360, .slice d2 n2 c2, .int .i64 ph2] from (by (repeat' (with_reducible first | assumption | (refine Row.at _ _ ?_; (simp; done)) | refine Row.alloc ?_ _ | refine Row.drew ?_ | refine Row.drewN ?_ _ | refine Row.other ?_ (by first | (simp; done) | (simp; omega) | omega) _ | refine Row.up ?_ (by assumption) | refine Row.chg ?_ (by assumption) (by first | (simp; done) | (simp; omega)))))) hc3 (by simp; omega); have b0 := RB3.cell 0 rfl; have b1 := RB3.cell 1 rfl; have b2 := RB3.cell 2 rfl; have b3 := RB3.cell 3 rfl; have b4 := RB3.cell 4 rfl; have b5 := RB3.cell 5 rfl; have HUA := Lib.hid (show Up w w3 from up_new (Up.call HU1.out HU2.out) ((Chg.of_up (S := [w2.heap.size]) (Up.alloc (Up.refl w2) _)).call hc3 (fun k hk => Or.inl hk)) (fun b hb => by simp at hb; omega)); have HS3 := Lib.hid (show Path.Segs w3 (.slice a1 N c1) t.l from owned_chg (raw_up (raw_up HS1.out HU2.out) (Up.alloc (Up.refl w2) _)) hc3 (fun g hg => by have := (HS1.out.lt g hg).2; simp; omega)))
    | (go_at_call 47; ((with_reducible refine (lay_stroke W H n cn a1 N c1 t.l gc wd2 ph2 d2 n2 c2 ds2 _ (HR.out.up HUA.out) HS3.out HN.out h1 (HD2.out.up HUA.out) hn2 hl2 HW2.out (by have := HGC.out; simp at z3; omega)).mono ?_); rintro E w4 ⟨rfl, j, hj, g, cap, hr4, ho4, hc4⟩; have z4 := hc4.size; have HG4 : Hid (Row w4 gb (gsC c wd (.slice da dl dc) ph fn fm false pb most segs)) := Lib.hid (Row.chg (HG.out.up HUA.out) hc4 (by simpa using hcg)); have HP4 : Hid (Path.PathIs w4 pb pv t) := Lib.hid ((HP.out.up HUA.out).chg hc4 (by simpa using hcp) (fun g hg => by simpa using HPO.out g hg)); have HJ := Lib.hid hj; have HO4 := Lib.hid ho4; have HR4 := Lib.hid hr4; have HC4 := Lib.hid (show Chg [cn] w w4 from (Chg.of_up (S := [cn]) HUA.out).call hc4 (fun k hk => Or.inl hk)); clear hj ho4 hr4 hc4))
    | (go_at_call 48; ((with_reducible refine (Path.clear_calls pb pv t _ HP4.out).mono ?_); rintro E w5 ⟨rfl, -, hc5⟩; have HC5 := Lib.hid hc5; clear hc5)))
  go_ret
  refine ⟨rfl, j, HJ.out, g, cap, Row.chg HR4.out HC5.out (by simpa using fun e => hcp e.symm), ?_, ((Chg.of_up (S := [cn, pb]) (Up.refl w)).call HC4.out (fun k hk => Or.inl (by simp at hk; simp [hk]))).call HC5.out (fun k hk => Or.inl (by simp at hk; simp [hk]))⟩
  have hz3 := HUA.out.size
  exact one_low (HO4.out.chg HC5.out (fun b hb => by simp at hb; omega)) hz3

set_option maxRecDepth 8000 in
set_option maxHeartbeats 2000000 in
theorem stroke_first (W H n : Int) (cn gb pb : Nat) (c : M6) (wd ph fn : Int) (fm : M6) (most segs : Int) (da : Option Addr) (dl dc : Nat) (ds : List Int) (pv : Value) (t : St) (N : Nat) (s : Int) (f : Int → Int) (w : World)
    (hr : Row w cn #[.int .i64 W, .int .i64 H, .slice none 0 0, .int .i64 n, .slice none 0 0]) (hg : Row w gb (gsC c wd (.slice da dl dc) ph fn fm false pb most segs)) (hS : Src w (.slice da dl dc) 1 dl (ds.map (Value.int .i64))) (hdn : ds.length = dl) (hl : dl ≤ 1000) (hp : Path.PathIs w pb pv t) (hN : t.l.length = N) (h0 : 0 < N) (h1 : N ≤ 1000)
    (hsc : MatM.scale c.a c.b c.c c.d = (s, 0)) (hm : ∀ z ∈ wd :: ph :: ds, FixM.mul z s = (f z, 0)) (hf : ∀ z ∈ ds, 0 ≤ f z ∧ f z ≤ 1000000) (hz : 0 < dl → (ds.map f).sum ≠ 0) (hcg : gb ≠ cn) (hcp : pb ≠ cn) (hgp : gb ≠ pb) (hpo : ∀ g, pv.ownBlock = some g → g ≠ cn) :
    Calls Try.prog 13 #[.pointer (some ⟨cn, 0, none⟩), .pointer (some ⟨gb, 0, none⟩)] w fun E w' => E = .returned (.int .i64 0) ∧ ∃ j : Pt.Item, j.dat = strokeD t.l (f wd) (f ph) (ds.map f) ∧ ∃ g cap : Nat, Row w' cn #[.int .i64 W, .int .i64 H, .slice (some ⟨g, 0, none⟩) 1 cap, .int .i64 n, .slice none 0 0] ∧ Pt.One1 w' w.heap.size g cap j ∧ Chg [cn, pb] w w' := by
  have HR := Lib.hid hr
  have HG := Lib.hid hg
  have HS := Lib.hid hS
  have HP := Lib.hid hp
  have HDN := Lib.hid hdn
  have HN := Lib.hid hN
  have HSC := Lib.hid hsc
  have HM := Lib.hid hm
  have HF := Lib.hid hf
  have HZ := Lib.hid hz
  have HPO := Lib.hid hpo
  have HW2 : Hid (∀ z ∈ ds.map f, (Lit.int .i64 z).wf = true) := Lib.hid (fun z hz => by
    simp only [List.mem_map] at hz
    obtain ⟨y, hy, rfl⟩ := hz
    have := HF.out y hy
    exact Mat.fits_wf (FixM.fits_true (by omega) (by omega)))
  clear hr hg hS hdn hp hN hsc hm hf hz hpo
  go_enter Try.func13, Try.ntmps13
  go_wp2_with (first
    | (go_at_call 31; ((with_reducible refine (now_dash gb c wd ph fn fm false pb most segs da dl dc ds _ HG.out HS.out (by omega)).mono ?_); rintro E w1 ⟨a8, c8, gc, rfl, ho1, -, hgc, hu1⟩; have z1 := hu1.size; have HO1 := Lib.hid ho1; have HU1 := Lib.hid hu1; clear ho1 hgc))
    | (go_at_call 30; ((with_reducible refine (scaled_ok c wd ph fn fm false a8 dl c8 (some ⟨gc, 0, none⟩) 0 0 ds s f _ (src_row HO1.out) HDN.out hl HSC.out HM.out HF.out HZ.out).mono ?_); rintro E w2 ⟨ao, cap, rfl, hs2, hu2⟩; have z2 := hu2.size; have HS2 := Lib.hid hs2; have HU2 := Lib.hid hu2; clear hs2))
    | (go_at_call 32; ((with_reducible refine (paint_first W H n cn gb pb c wd ph fn fm most segs da dl dc ds pv t N (f wd) (f ph) ao dl (cap - 2) (ds.map f) _ (HR.out.up (by (repeat' (first | (with_reducible first | exact Up.refl _ | assumption | refine Up.alloc ?_ _ | refine Up.drew ?_ | refine Up.drewN ?_ _ | refine Up.setCell ?_ ?_ _ | refine Up.call ?_ (by assumption)) | go_size)))) (HG.out.up (by (repeat' (first | (with_reducible first | exact Up.refl _ | assumption | refine Up.alloc ?_ _ | refine Up.drew ?_ | refine Up.drewN ?_ _ | refine Up.setCell ?_ ?_ _ | refine Up.call ?_ (by assumption)) | go_size)))) (HS.out.up (by (repeat' (first | (with_reducible first | exact Up.refl _ | assumption | refine Up.alloc ?_ _ | refine Up.drew ?_ | refine Up.drewN ?_ _ | refine Up.setCell ?_ ?_ _ | refine Up.call ?_ (by assumption)) | go_size)))) hl (HP.out.up (by (repeat' (first | (with_reducible first | exact Up.refl _ | assumption | refine Up.alloc ?_ _ | refine Up.drew ?_ | refine Up.drewN ?_ _ | refine Up.setCell ?_ ?_ _ | refine Up.call ?_ (by assumption)) | go_size)))) HN.out h0 h1 (HS2.out.up (by (repeat' (first | (with_reducible first | exact Up.refl _ | assumption | refine Up.alloc ?_ _ | refine Up.drew ?_ | refine Up.drewN ?_ _ | refine Up.setCell ?_ ?_ _ | refine Up.call ?_ (by assumption)) | go_size)))) (by rw [List.length_map]; exact HDN.out) hl HW2.out hcg hcp hgp HPO.out).mono ?_); rintro E w3 ⟨rfl, j, hj, g, cap3, hr3, ho3, hc3⟩; have HJ := Lib.hid hj; have HR3 := Lib.hid hr3; have HO3 := Lib.hid ho3; clear hj hr3 ho3)))
  go_ret
  exact ⟨rfl, j, HJ.out, g, cap3, HR3.out, one_low HO3.out (by simp; omega), by (repeat' (first | (with_reducible first | exact Chg.refl _ _ | assumption | refine Chg.alloc ?_ _ | refine Chg.drew ?_ | refine Chg.drewN ?_ _ | refine Chg.setCell ?_ ?_ _ | refine Chg.upc ?_ (by assumption) | refine Chg.call ?_ (by assumption) ?_) | (refine Or.inl ?_; (simp; done)) | (simp; done) | (simp; omega) | omega))⟩

end Go.Proofs.Yteddlahklilncaa.Pp
end

section
namespace Go.Proofs.Yteddlahklilncaa.Pp
open Go.ChangeShapes Go.WideShapes Go.ChangeAt Go.RowKit
open Go.Proofs.Yteddlahklilncaa.FixM (fits)
open Go.Proofs.Yteddlahklilncaa.MatM (M6)
open Go.Proofs.Yteddlahklilncaa.PathM (Seg St Z segCells)
open Go.Proofs.Yteddlahklilncaa.Path (own own_mem own_of)
open Go.Proofs.Yteddlahklilncaa.Gs (gsC stC infoSt)
open Go.Proofs.Yteddlahklilncaa.Pt (Src cloneInts raw_up)
set_option linter.unusedVariables false
set_option linter.unusedSimpArgs false

theorem neg1_calls (n : Int) (w : World) (h : decide (n < 0) = false) : Calls Try.prog 24 #[.int .i64 n] w fun e w' => e = .returned (.bool false) ∧ w = w' := by
  go_enter Try.func24, Try.ntmps24
  go_wp2
  go_ret
  exact ⟨rfl, rfl⟩
theorem index_neg (l : List Int) (N b o c : Nat) (w : World) (hN : l.length = N) (hl : N ≤ 1000000000) (h : Gs.IntsAt w b o l) (hb : b < w.heap.size) (hn : ∀ z ∈ l, 0 ≤ z) :
    Calls Try.prog 40 #[.slice (some ⟨b, o, none⟩) N c, .func (.func 24) #[] #[]] w fun e w' => e = .returned (.int .i64 (-1)) ∧ Up w w' := by
  subst hN
  have HP := Lib.hid h
  have HN := Lib.hid hn
  clear h hn
  go_enter Try.func40, Try.ntmps40
  go_wp2
  go_loopw [8] (fun i wr => ∃ k : Nat, k ≤ l.length ∧ i = .int .i64 k ∧ Up w wr) (fun i _ => l.length - (intOf i).toNat)
  case atStart => exact ⟨0, Nat.zero_le _, rfl, Up.refl _⟩
  case round =>
    obtain ⟨k, hk, rfl, hup⟩ := hrel
    by_cases hlt : k < l.length
    · obtain ⟨x, hxy⟩ : ∃ x, l[k] = x := ⟨_, rfl⟩
      have hc0 := HP.out k x (by rw [List.getElem?_eq_getElem hlt, hxy])
      have hq0 := (hup.cells.1 b (o + k) hb).trans hc0
      have hz := hup.size
      have HX := Lib.hid (HN.out x (by rw [← hxy]; exact List.getElem_mem hlt))
      have HL := Lib.hid hlt
      clear hc0 hxy
      go_wp2_with (go_at_call 24; ((with_reducible refine (neg1_calls x _ (decide_eq_false (by have := HX.out; omega))).mono ?_); rintro E w1 ⟨rfl, rfl⟩))
      go_roundw
      case rel => exact ⟨k + 1, by have := HL.out; omega, by go_num, by (repeat' (first | (with_reducible first | exact Up.refl _ | assumption | refine Up.alloc ?_ _ | refine Up.drew ?_ | refine Up.drewN ?_ _ | refine Up.setCell ?_ ?_ _ | refine Up.call ?_ (by assumption)) | go_size))⟩
      case measure => have := HL.out; simp [intOf]; omega
    · go_wp2
      go_ret
      exact ⟨rfl, by (repeat' (first | (with_reducible first | exact Up.refl _ | assumption | refine Up.alloc ?_ _ | refine Up.drew ?_ | refine Up.drewN ?_ _ | refine Up.setCell ?_ ?_ _ | refine Up.call ?_ (by assumption)) | go_size))⟩
theorem contains_neg (l : List Int) (N b o c : Nat) (w : World) (hN : l.length = N) (hl : N ≤ 1000000000) (h : Gs.IntsAt w b o l) (hb : b < w.heap.size) (hn : ∀ z ∈ l, 0 ≤ z) :
    Calls Try.prog 23 #[.slice (some ⟨b, o, none⟩) N c, .func (.func 24) #[] #[]] w fun e w' => e = .returned (.bool false) ∧ Up w w' := by
  have HP := Lib.hid h
  have HN := Lib.hid hn
  clear h hn
  go_enter Try.func23, Try.ntmps23
  go_wp2_with (go_at_call 40; ((with_reducible refine (index_neg l N b o c _ hN hl HP.out hb HN.out).mono ?_); rintro E w1 ⟨rfl, hu1⟩))
  go_ret
  exact ⟨rfl, by (repeat' (first | (with_reducible first | exact Up.refl _ | assumption | refine Up.alloc ?_ _ | refine Up.drew ?_ | refine Up.drewN ?_ _ | refine Up.setCell ?_ ?_ _ | refine Up.call ?_ (by assumption)) | go_size))⟩
theorem index_neg0 (a : Option Addr) (c : Nat) (w : World) : Calls Try.prog 40 #[.slice a 0 c, .func (.func 24) #[] #[]] w fun e w' => e = .returned (.int .i64 (-1)) ∧ w = w' := by
  go_enter Try.func40, Try.ntmps40
  go_wp2
  go_loop [8] (fun i => i = .int .i64 0) (fun i => 1 - (intOf i).toNat)
  case atStart => exact rfl
  case round =>
    obtain rfl := hrel
    go_wp2
    go_ret
    exact ⟨rfl, rfl⟩
theorem contains_neg0 (a : Option Addr) (c : Nat) (w : World) : Calls Try.prog 23 #[.slice a 0 c, .func (.func 24) #[] #[]] w fun e w' => e = .returned (.bool false) ∧ w = w' := by
  go_enter Try.func23, Try.ntmps23
  go_wp2_with (go_at_call 40; ((with_reducible refine (index_neg0 a c _).mono ?_); rintro E w1 ⟨rfl, rfl⟩))
  go_ret
  exact ⟨rfl, rfl⟩
theorem ints_own {w : World} {base : Nat} {e : TypeId} {g n cap : Nat} {zs : List Int} (h : w.ownsRow base e 1 (.slice (some ⟨g, 0, none⟩) n cap) n (zs.map (Value.int .i64))) : Gs.IntsAt w g 0 zs := fun i p hp => by
  rw [Nat.zero_add, h.cellAt i (by have := h.1; have h2 := (List.getElem?_eq_some_iff.1 hp).1; simp at this; omega), List.getElem?_map, hp]
  rfl
theorem sum_low (l : List Int) (h : ∀ z ∈ l, 0 ≤ z ∧ z ≤ 65535) : 0 ≤ l.sum ∧ l.sum ≤ 65535 * l.length := by
  induction l with
  | nil => simp
  | cons z l ih =>
    have h1 := h z (by simp)
    have h2 := ih (fun y hy => h y (by simp [hy]))
    simp only [List.sum_cons, List.length_cons]
    push_cast
    omega
theorem chk_ok (l : List Int) (h : ∀ z ∈ l, 0 ≤ z ∧ z ≤ 65535) : Gs.chk l = 0 := by
  unfold Gs.chk
  rw [if_neg]
  rw [List.any_eq_true]
  rintro ⟨x, hx, h2⟩
  have := h x hx
  rw [FixM.fits_true (by omega) (by omega)] at h2
  cases h2

set_option maxRecDepth 8000 in
set_option maxHeartbeats 2000000 in
theorem setDash_some (b : Nat) (c : M6) (wd ph fn : Int) (dash : Value) (fm : M6) (dk : Bool) (p : Nat) (most segs : Int) (base lg N lc : Nat) (zs : List Int) (q : Int) (w : World) (h : Row w b (gsC c wd dash ph fn fm dk p most segs)) (hS : w.ownsRow base 3 1 (.slice (some ⟨lg, 0, none⟩) N lc) N (zs.map (Value.int .i64))) (hN : zs.length = N) (h0 : 0 < N) (hl : N ≤ 11) (hz : ∀ z ∈ zs, 0 ≤ z ∧ z ≤ 65535) (hq0 : 0 ≤ q) (hq1 : q ≤ 65535) (bad : Bool) (hbad : (zs.sum == 0) = bad) :
    Calls Try.prog 9 #[.pointer (some ⟨b, 0, none⟩), .slice (some ⟨lg, 0, none⟩) N lc, .int .i64 q] w fun E w' => if bad = true then E = .returned (.int .i64 11) ∧ Row w' b (gsC c wd dash ph fn fm dk p most segs) ∧ Chg [b] w w' else E = .returned (.int .i64 0) ∧ ∃ a8 c8, Row w' b (gsC c wd (.slice a8 N c8) q fn fm dk p most segs) ∧ w'.ownsRow 0 3 1 (.slice a8 N c8) N (zs.map (Value.int .i64)) ∧ (∀ g ∈ own (.slice a8 N c8), w.heap.size ≤ g ∧ g < w'.heap.size) ∧ Chg [b] w w' := by
  obtain ⟨i0, hi, hz0, hz1, hz2⟩ := Pt.info_parts3 Pt.infoI1
  have HR := Lib.hid h
  have HS := Lib.hid hS
  have HN := Lib.hid hN
  have HZ := Lib.hid hz
  have HB := Lib.hid hbad
  have lb := h.lt
  have ll := (hS.lt lg rfl).2
  have HV : Hid (Gs.chk (q :: zs) = 0) := Lib.hid (chk_ok _ (fun z hz2 => by
    rcases List.mem_cons.1 hz2 with rfl | h3
    · exact ⟨hq0, hq1⟩
    · exact hz z h3))
  clear h hS hN hz hbad
  have hqd : decide (q < 0) = false := decide_eq_false (by omega)
  have hNd : decide (11 < N) = false := decide_eq_false (by omega)
  have hN0 : decide (0 < N) = true := decide_eq_true h0
  go_enter Try.func9, Try.ntmps9
  go_wp2_with (first
    | (at_builtin; refine wpList_append_any rfl _ _ 34 rfl w.heap.size 3 i0 _ 1 8 Try.underlying34 hi hz0 hz1 hz2 rfl (by decide) (.slice (some ⟨w.heap.size, 0, none⟩) 1 1) 1 [.int .i64 q] rfl (World.ownsRow_lit w #[.int .i64 q] 1 (Nat.le_refl _) (by decide) rfl) (some ⟨lg, 0, none⟩) N lc (zs.map (Value.int .i64)) rfl (by have := HS.out.1; simpa using this) (fun e => by cases e) (fun ad2 e j u hj => by injection e with e; subst e; exact Pt.cell_up (Up.alloc (Up.refl w) _) (HS.out.cells (g := lg) rfl j u hj)) (one_ints _) (by unfold maxLen; omega) (by omega) (by simp) ?_; intro v4 w4 hown hgr hnil; have hu4 : Up w w4 := grown_up (Up.alloc (Up.refl w) _) hgr (fun k0 hk0 => by have h4 : w.heap.size = k0 := (by injection hk0); omega); obtain ⟨g, cap, rfl, hbg, hg4⟩ := World.ownsRow.form hown (by omega); have HO4 : Hid (w4.ownsRow w.heap.size 3 1 (.slice (some ⟨g, 0, none⟩) (1 + N) cap) (1 + N) ((q :: zs).map (Value.int .i64))) := Lib.hid hown; clear hgr hown hnil)
    | (go_at_call 21; ((with_reducible refine (Gs.check_calls ⟨b, 0, none⟩ (q :: zs) (1 + N) g 0 cap (by rw [List.length_cons, HN.out]; omega) _ (by omega) (ints_own HO4.out) hg4).mono ?_); rw [HV.out]; rintro E w5 ⟨rfl, hu5⟩; have z5 := hu5.size; have HU5 := Lib.hid (Up.call hu4 hu5); have HI5 := Lib.hid (ints_own (raw_up HS.out HU5.out)); have RB5 : Row w5 b (gsC c wd dash ph fn fm dk p most segs) := Row.up HR.out HU5.out; have ll5 : lg < w5.heap.size := Nat.lt_of_lt_of_le ll HU5.out.size)))
  go_loop [8, 22] (fun s8 s22 => ∃ k : Nat, k ≤ N ∧ s8 = .int .i64 (zs.take k).sum ∧ s22 = .int .i64 k) (fun _ s22 => N - (intOf s22).toNat)
  case atStart => exact ⟨0, Nat.zero_le _, rfl, rfl⟩
  case round =>
    obtain ⟨k, hk, rfl, rfl⟩ := hrel
    have hpb := sum_low (zs.take k) (fun z hz => HZ.out z (List.mem_of_mem_take hz))
    have hpl : (zs.take k).length ≤ 11 := by simp; omega
    by_cases hlt : k < N
    · have hkz : k < zs.length := by rw [HN.out]; exact hlt
      obtain ⟨x, hx⟩ : ∃ x, zs[k] = x := ⟨_, rfl⟩
      have hxz := HZ.out x (by rw [← hx]; exact List.getElem_mem hkz)
      have hmx : max x 0 = x := Int.max_eq_left hxz.1
      have qc : w5.cell? ⟨lg, k, none⟩ = some (.int .i64 x) := by
        have := HI5.out k x (by rw [List.getElem?_eq_getElem hkz, hx])
        rwa [Nat.zero_add] at this
      have HSU : Hid ((zs.take (k + 1)).sum = (zs.take k).sum + x) := Lib.hid (by rw [List.take_succ_eq_append_getElem hkz, List.sum_append, hx]; simp)
      clear hx
      go_wp2
      go_round
      case rel => exact ⟨k + 1, by omega, by rw [HSU.out], by go_num⟩
      case measure => simp [intOf]; omega
    · obtain rfl : k = N := by omega
      have HT : Hid ((zs.take k).sum = zs.sum) := Lib.hid (by rw [List.take_of_length_le (by rw [HN.out]; exact Nat.le_refl _)])
      rw [HT.out] at hpb ⊢
      have rb15 := RB5.cell 15 rfl
      have rb16 := RB5.cell 16 rfl
      have rbf15 := RB5.free 15
      have rbf16 := RB5.free 16
      have lb5 := RB5.lt
      cases bad
      · have hb2 := HB.out
        go_wp2_with (first
          | (go_at_call 23; ((with_reducible refine (contains_neg zs k lg 0 lc _ HN.out (by omega) HI5.out ll5 (fun z hz => (HZ.out z hz).1)).mono ?_); rintro E w6 ⟨rfl, hu6⟩; have RB6 := RB5.up hu6; have HU6 := Lib.hid (Up.call HU5.out hu6); have lb6 := RB6.lt; have rc15 := RB6.cell 15 rfl; have rc16 := RB6.cell 16 rfl; have rcf15 := RB6.free 15; have rcf16 := RB6.free 16))
          | (go_at_call 25; ((with_reducible refine (cloneInts _ _ _ _ (src_row (raw_up HS.out HU6.out)) (one_ints _) (by omega)).mono ?_); rintro E w7 ⟨v7, rfl, ho7, hf7, hu7⟩; obtain ⟨a8, c8, rfl⟩ := len_own ho7; have HO7 := Lib.hid ho7; have HF7 := Lib.hid hf7; have RB7 := RB6.up hu7; have lb7 := RB7.lt; have rd15 := RB7.cell 15 rfl; have rd16 := RB7.cell 16 rfl; have rdf15 := RB7.free 15; have rdf16 := RB7.free 16; have HU7 := Lib.hid (Up.call HU6.out hu7); clear ho7 hf7)))
        go_ret
        have hz6 := HU6.out.size
        have hz7 := HU7.out.size
        refine ⟨rfl, a8, c8, (by apply cast; (case h => (repeat (first | (with_reducible first | assumption | (apply Row.at; (simp; done)) | apply Row.alloc | apply Row.drew | apply Row.drewN | apply Row.set) | ((with_reducible apply Row.other); (case hp => first | (simp; done) | (simp; omega) | omega))))); (case e => rfl)), ?_, fun g hg => ⟨by have := (HF7.out g hg).1; omega, by have := (HF7.out g hg).2; simpa using this⟩, ?_⟩
        · refine owned_chg HO7.out (show Chg [b] w7 _ by (repeat' (first | (with_reducible first | exact Chg.refl _ _ | assumption | refine Chg.alloc ?_ _ | refine Chg.drew ?_ | refine Chg.drewN ?_ _ | refine Chg.setCell ?_ ?_ _ | refine Chg.upc ?_ (by assumption) | refine Chg.call ?_ (by assumption) ?_) | (refine Or.inl ?_; (simp; done)) | (simp; done) | (simp; omega) | omega))) (fun g hg => ?_)
          have := (HF7.out g (own_mem hg)).1
          simp
          omega
        · have := (Chg.of_up (S := [b]) HU7.out)
          (repeat' (first | (with_reducible first | exact Chg.refl _ _ | assumption | refine Chg.alloc ?_ _ | refine Chg.drew ?_ | refine Chg.drewN ?_ _ | refine Chg.setCell ?_ ?_ _ | refine Chg.upc ?_ (by assumption) | refine Chg.call ?_ (by assumption) ?_) | (refine Or.inl ?_; (simp; done)) | (simp; done) | (simp; omega) | omega))
      · have hb2 := HB.out
        go_wp2_with (first
          | (go_at_call 23; ((with_reducible refine (contains_neg zs k lg 0 lc _ HN.out (by omega) HI5.out ll5 (fun z hz => (HZ.out z hz).1)).mono ?_); rintro E w6 ⟨rfl, hu6⟩; have RB6 := RB5.up hu6; have HU6 := Lib.hid (Up.call HU5.out hu6))))
        go_ret
        exact ⟨rfl, RB6, Chg.of_up HU6.out⟩

set_option maxRecDepth 8000 in
set_option maxHeartbeats 2000000 in
theorem setDash_nil (b : Nat) (c : M6) (wd ph fn : Int) (dash : Value) (fm : M6) (dk : Bool) (p : Nat) (most segs : Int) (q : Int) (w : World) (h : Row w b (gsC c wd dash ph fn fm dk p most segs)) (hq0 : 0 ≤ q) (hq1 : q ≤ 65535) :
    Calls Try.prog 9 #[.pointer (some ⟨b, 0, none⟩), .slice none 0 0, .int .i64 q] w fun E w' => E = .returned (.int .i64 0) ∧ Row w' b (gsC c wd (.slice none 0 0) q fn fm dk p most segs) ∧ Chg [b] w w' := by
  obtain ⟨i0, hi, hz0, hz1, hz2⟩ := Pt.info_parts3 Pt.infoI1
  have HR := Lib.hid h
  have lb := h.lt
  have HV : Hid (Gs.chk [q] = 0) := Lib.hid (chk_ok _ (fun z hz2 => by
    rw [List.mem_singleton] at hz2
    subst hz2
    exact ⟨hq0, hq1⟩))
  clear h
  have hqd : decide (q < 0) = false := decide_eq_false (by omega)
  go_enter Try.func9, Try.ntmps9
  go_wp2_with (first
    | (at_builtin; refine wpList_append_any rfl _ _ 34 rfl w.heap.size 3 i0 _ 1 8 Try.underlying34 hi hz0 hz1 hz2 rfl (by decide) (.slice (some ⟨w.heap.size, 0, none⟩) 1 1) 1 [.int .i64 q] rfl (World.ownsRow_lit w #[.int .i64 q] 1 (Nat.le_refl _) (by decide) rfl) none 0 0 [] rfl rfl (fun _ => ⟨rfl, rfl⟩) (fun ad2 e j u hj => by cases e) (fun u hu => by cases hu) (by decide) (by decide) (by simp) ?_; intro v4 w4 hown hgr hnil; have hu4 : Up w w4 := grown_up (Up.alloc (Up.refl w) _) hgr (fun k0 hk0 => by have h4 : w.heap.size = k0 := (by injection hk0); omega); obtain ⟨g, cap, rfl, hbg, hg4⟩ := World.ownsRow.form hown (by omega); have HO4 : Hid (w4.ownsRow w.heap.size 3 1 (.slice (some ⟨g, 0, none⟩) 1 cap) 1 ([q].map (Value.int .i64))) := Lib.hid hown; clear hgr hown hnil)
    | (go_at_call 21; ((with_reducible refine (Gs.check_calls ⟨b, 0, none⟩ [q] 1 g 0 cap rfl _ (by omega) (ints_own HO4.out) hg4).mono ?_); rw [HV.out]; rintro E w5 ⟨rfl, hu5⟩; have z5 := hu5.size; have HU5 := Lib.hid (Up.call hu4 hu5); have RB5 : Row w5 b (gsC c wd dash ph fn fm dk p most segs) := Row.up HR.out HU5.out)))
  go_loop [8, 22] (fun s8 s22 => s8 = .int .i64 0 ∧ s22 = .int .i64 0) (fun _ s22 => 1 - (intOf s22).toNat)
  case atStart => exact ⟨rfl, rfl⟩
  case round =>
    obtain ⟨rfl, rfl⟩ := hrel
    go_wp2_with (first
      | (go_at_call 23; ((with_reducible refine (contains_neg0 none 0 _).mono ?_); rintro E w6 ⟨rfl, rfl⟩))
      | (go_at_call 25; ((with_reducible refine (Gs.cloneI_nil _).mono ?_); rintro E w7 ⟨rfl, hu7⟩; have RB7 := RB5.up hu7; have lb7 := RB7.lt; have rd15 := RB7.cell 15 rfl; have rd16 := RB7.cell 16 rfl; have rdf15 := RB7.free 15; have rdf16 := RB7.free 16; have HU7 := Lib.hid (Up.call HU5.out hu7))))
    go_ret
    refine ⟨rfl, (by apply cast; (case h => (repeat (first | (with_reducible first | assumption | (apply Row.at; (simp; done)) | apply Row.alloc | apply Row.drew | apply Row.drewN | apply Row.set) | ((with_reducible apply Row.other); (case hp => first | (simp; done) | (simp; omega) | omega))))); (case e => rfl)), ?_⟩
    have := (Chg.of_up (S := [b]) HU7.out)
    (repeat' (first | (with_reducible first | exact Chg.refl _ _ | assumption | refine Chg.alloc ?_ _ | refine Chg.drew ?_ | refine Chg.drewN ?_ _ | refine Chg.setCell ?_ ?_ _ | refine Chg.upc ?_ (by assumption) | refine Chg.call ?_ (by assumption) ?_) | (refine Or.inl ?_; (simp; done)) | (simp; done) | (simp; omega) | omega))

end Go.Proofs.Yteddlahklilncaa.Pp
end

section
namespace Go.Proofs.Yteddlahklilncaa.Pp
open Go.ChangeShapes Go.WideShapes Go.ChangeAt Go.RowKit
open Go.Proofs.Yteddlahklilncaa.FixM (fits)
open Go.Proofs.Yteddlahklilncaa.MatM (M6)
open Go.Proofs.Yteddlahklilncaa.PathM (Seg St Z segCells)
open Go.Proofs.Yteddlahklilncaa.Path (own own_mem own_of)
open Go.Proofs.Yteddlahklilncaa.Gs (gsC stC infoSt)
open Go.Proofs.Yteddlahklilncaa.Pt (Src cloneInts raw_up)
set_option linter.unusedVariables false
set_option linter.unusedSimpArgs false

/-- a stretch by k, and the quarter turns -/
def kM (k : Int) : M6 := ⟨k * 65536, 0, 0, k * 65536, 0, 0⟩
def turnM (q : Nat) : M6 := match q with
  | 0 => ⟨65536, 0, 0, 65536, 0, 0⟩
  | 1 => ⟨0, 65536, -65536, 0, 0, 0⟩
  | 2 => ⟨-65536, 0, 0, -65536, 0, 0⟩
  | _ => ⟨0, -65536, 65536, 0, 0, 0⟩
def qkM (q : Nat) (k : Int) : M6 := (MatM.concat (turnM q) (kM k)).1
theorem stretch_ok : ∀ k : Fin 10, 1 ≤ k.val → MatM.concat (kM (k.val : Int)) Gs.idM = (kM (k.val : Int), 0) ∧ Gs.chk (Gs.l6 (kM (k.val : Int))) = 0 := by decide +kernel
theorem turn_ok : ∀ (q : Fin 4) (k : Fin 10), 1 ≤ k.val → MatM.concat (turnM q.val) (kM (k.val : Int)) = (qkM q.val (k.val : Int), 0) ∧ Gs.chk (Gs.l6 (turnM q.val)) = 0 ∧ MatM.scale (qkM q.val (k.val : Int)).a (qkM q.val (k.val : Int)).b (qkM q.val (k.val : Int)).c (qkM q.val (k.val : Int)).d = ((k.val : Int) * 65536, 0) := by decide +kernel
theorem mul_ok (z k : Int) (hz : 0 ≤ z ∧ z ≤ 65535) (hk : 1 ≤ k ∧ k ≤ 9) : FixM.mul z (k * 65536) = (z * k, 0) := by
  have h1 : fits z = true := FixM.fits_true (by omega) (by omega)
  have h2 : fits (k * 65536) = true := FixM.fits_true (by omega) (by omega)
  have h3 : 0 ≤ z * k := Int.mul_nonneg hz.1 (by omega)
  have h4 : z * k ≤ 65535 * 9 := Int.mul_le_mul hz.2 hk.2 (by omega) (by omega)
  have h5 : fits (z * k) = true := FixM.fits_true (by omega) (by omega)
  unfold FixM.mul
  rw [h1, h2]
  simp only [Bool.and_true, if_true]
  have e : FixM.rnd (z * (k * 65536)) 65536 = z * k := by
    unfold FixM.rnd
    rw [if_neg (by decide), ← Int.mul_assoc]
    exact FixM.rndp_exact _ _ (by decide)
  rw [e]
  unfold FixM.within
  rw [h5]
  rfl
theorem sum_mul (k : Int) (l : List Int) : (l.map (fun z => z * k)).sum = l.sum * k := by
  induction l with
  | nil => simp
  | cons z l ih => simp only [List.map_cons, List.sum_cons, ih, Int.add_mul]

theorem concat1 (gb pb : Nat) (k : Int) (hk : 1 ≤ k) (hk9 : k ≤ 9) (w : World) (h : Row w gb (gsC Gs.idM 65536 (.slice none 0 0) 0 (-1) Gs.idM false pb 3 40)) : Calls Try.prog 7 #[.pointer (some ⟨gb, 0, none⟩), .agg #[.int .i64 (k * 65536), .int .i64 0, .int .i64 0, .int .i64 (k * 65536), .int .i64 0, .int .i64 0]] w fun E w' => E = .returned (.int .i64 0) ∧ Row w' gb (gsC (kM k) 65536 (.slice none 0 0) 0 (-1) Gs.idM false pb 3 40) ∧ Chg [gb] w w' := by
  obtain ⟨n, rfl⟩ : ∃ n : Nat, k = n := ⟨k.toNat, by omega⟩
  have h1 := stretch_ok ⟨n, by omega⟩ (by simp; omega)
  exact Gs.concat_ok gb Gs.idM 65536 0 (-1) (.slice none 0 0) Gs.idM false pb 3 40 (kM n) (kM n) w h h1.2 h1.1 rfl rfl
theorem concat2 (gb pb q : Nat) (k : Int) (hk : 1 ≤ k) (hk9 : k ≤ 9) (hq : q < 4) (w : World) (h : Row w gb (gsC (kM k) 65536 (.slice none 0 0) 0 (-1) Gs.idM false pb 3 40)) : Calls Try.prog 7 #[.pointer (some ⟨gb, 0, none⟩), .agg #[.int .i64 (turnM q).a, .int .i64 (turnM q).b, .int .i64 (turnM q).c, .int .i64 (turnM q).d, .int .i64 (turnM q).x, .int .i64 (turnM q).y]] w fun E w' => E = .returned (.int .i64 0) ∧ Row w' gb (gsC (qkM q k) 65536 (.slice none 0 0) 0 (-1) Gs.idM false pb 3 40) ∧ Chg [gb] w w' := by
  obtain ⟨n, rfl⟩ : ∃ n : Nat, k = n := ⟨k.toNat, by omega⟩
  have h1 := turn_ok ⟨q, hq⟩ ⟨n, by omega⟩ (by simp; omega)
  exact Gs.concat_ok gb (kM n) 65536 0 (-1) (.slice none 0 0) Gs.idM false pb 3 40 (turnM q) (qkM q n) w h h1.2.1 h1.1 rfl rfl
theorem scale_qk (q : Nat) (k : Int) (hk : 1 ≤ k) (hk9 : k ≤ 9) (hq : q < 4) : MatM.scale (qkM q k).a (qkM q k).b (qkM q k).c (qkM q k).d = (k * 65536, 0) := by
  obtain ⟨n, rfl⟩ : ∃ n : Nat, k = n := ⟨k.toNat, by omega⟩
  exact (turn_ok ⟨q, hq⟩ ⟨n, by omega⟩ (by simp; omega)).2.2
theorem turn_rng {W : World} {b : Nat} (h : Row W b #[.int .i64 65536, .int .i64 0, .int .i64 0, .int .i64 65536, .int .i64 0, .int .i64 0, .int .i64 0, .int .i64 65536, .int .i64 (-65536), .int .i64 0, .int .i64 0, .int .i64 0, .int .i64 (-65536), .int .i64 0, .int .i64 0, .int .i64 (-65536), .int .i64 0, .int .i64 0, .int .i64 0, .int .i64 (-65536), .int .i64 65536, .int .i64 0, .int .i64 0, .int .i64 0]) (q : Nat) (hq : q < 4) : W.rangeAt b (q * 6) #[.int .i64 (turnM q).a, .int .i64 (turnM q).b, .int .i64 (turnM q).c, .int .i64 (turnM q).d, .int .i64 (turnM q).x, .int .i64 (turnM q).y].toList := fun j v hj => by
  refine h.cell (q * 6 + j) ?_
  match q, hq with
  | 0, _ =>
    match j, hj with
    | 0, hj => exact hj
    | 1, hj => exact hj
    | 2, hj => exact hj
    | 3, hj => exact hj
    | 4, hj => exact hj
    | 5, hj => exact hj
    | j + 6, hj => simp at hj
  | 1, _ =>
    match j, hj with
    | 0, hj => exact hj
    | 1, hj => exact hj
    | 2, hj => exact hj
    | 3, hj => exact hj
    | 4, hj => exact hj
    | 5, hj => exact hj
    | j + 6, hj => simp at hj
  | 2, _ =>
    match j, hj with
    | 0, hj => exact hj
    | 1, hj => exact hj
    | 2, hj => exact hj
    | 3, hj => exact hj
    | 4, hj => exact hj
    | 5, hj => exact hj
    | j + 6, hj => simp at hj
  | 3, _ =>
    match j, hj with
    | 0, hj => exact hj
    | 1, hj => exact hj
    | 2, hj => exact hj
    | 3, hj => exact hj
    | 4, hj => exact hj
    | 5, hj => exact hj
    | j + 6, hj => simp at hj
  | q + 4, h => omega
theorem setWidth1 (b : Nat) (c : M6) (wd ph fn : Int) (dash : Value) (fm : M6) (dk : Bool) (p : Nat) (most segs : Int) (n : Int) (hn : 0 ≤ n ∧ n ≤ 65535) (w : World) (h : Row w b (gsC c wd dash ph fn fm dk p most segs)) :
    Calls Try.prog 8 #[.pointer (some ⟨b, 0, none⟩), .int .i64 n] w fun E w' => E = .returned (.int .i64 0) ∧ Row w' b (gsC c n dash ph fn fm dk p most segs) ∧ Chg [b] w w' := by
  have h0 : Gs.swE n = 0 := by
    unfold Gs.swE
    rw [chk_ok [n] (fun z hz => by rw [List.mem_singleton] at hz; subst hz; exact hn), if_pos rfl, if_neg (by omega)]
  refine (Gs.setWidth_calls b c wd ph fn dash fm dk p most segs n w h).mono ?_
  rw [h0, if_pos rfl]
  exact fun E w' h => h
theorem setDash_bad (b : Nat) (c : M6) (wd ph fn : Int) (dash : Value) (fm : M6) (dk : Bool) (p : Nat) (most segs : Int) (base lg N lc : Nat) (zs : List Int) (q : Int) (w : World) (h : Row w b (gsC c wd dash ph fn fm dk p most segs)) (hS : w.ownsRow base 3 1 (.slice (some ⟨lg, 0, none⟩) N lc) N (zs.map (Value.int .i64))) (hN : zs.length = N) (h0 : 0 < N) (hl : N ≤ 11) (hz : ∀ z ∈ zs, 0 ≤ z ∧ z ≤ 65535) (hq : 0 ≤ q ∧ q ≤ 65535) (hbad : zs.sum = 0) :
    Calls Try.prog 9 #[.pointer (some ⟨b, 0, none⟩), .slice (some ⟨lg, 0, none⟩) N lc, .int .i64 q] w fun E w' => E = .returned (.int .i64 11) ∧ Row w' b (gsC c wd dash ph fn fm dk p most segs) ∧ Chg [b] w w' := by
  refine (setDash_some b c wd ph fn dash fm dk p most segs base lg N lc zs q w h hS hN h0 hl hz hq.1 hq.2 true (by simpa using hbad)).mono ?_
  exact fun E w' h => by simpa using h
theorem setDash_good (b : Nat) (c : M6) (wd ph fn : Int) (dash : Value) (fm : M6) (dk : Bool) (p : Nat) (most segs : Int) (base lg N lc : Nat) (zs : List Int) (q : Int) (w : World) (h : Row w b (gsC c wd dash ph fn fm dk p most segs)) (hS : w.ownsRow base 3 1 (.slice (some ⟨lg, 0, none⟩) N lc) N (zs.map (Value.int .i64))) (hN : zs.length = N) (h0 : 0 < N) (hl : N ≤ 11) (hz : ∀ z ∈ zs, 0 ≤ z ∧ z ≤ 65535) (hq : 0 ≤ q ∧ q ≤ 65535) (hbad : zs.sum ≠ 0) :
    Calls Try.prog 9 #[.pointer (some ⟨b, 0, none⟩), .slice (some ⟨lg, 0, none⟩) N lc, .int .i64 q] w fun E w' => ∃ a8 c8, E = .returned (.int .i64 0) ∧ Row w' b (gsC c wd (.slice a8 N c8) q fn fm dk p most segs) ∧ w'.ownsRow 0 3 1 (.slice a8 N c8) N (zs.map (Value.int .i64)) ∧ (∀ g ∈ own (.slice a8 N c8), w.heap.size ≤ g ∧ g < w'.heap.size) ∧ Chg [b] w w' := by
  refine (setDash_some b c wd ph fn dash fm dk p most segs base lg N lc zs q w h hS hN h0 hl hz hq.1 hq.2 false (by simpa using hbad)).mono ?_
  intro E w' h
  rw [if_neg (by decide)] at h
  obtain ⟨h1, a8, c8, h2, h3, h4, h5⟩ := h
  exact ⟨a8, c8, h1, h2, h3, h4, h5⟩
theorem owned_chgB {S : List Nat} {w w1 : World} {base : Nat} {e : TypeId} {k : Nat} {v : Value} {n : Nat} {xs : List Value} (h : w.ownsRow base e k v n xs) (hc : Chg S w w1) (hn : ∀ g, v.ownBlock = some g → g ∉ S) : w1.ownsRow base e k v n xs := by
  have h1 := owned_chg (Pt.owned_new h).1 hc hn
  refine ⟨h1.1, ?_⟩
  rcases h1.2 with h2 | ⟨g', cap', cur, hv2, _, hr⟩
  · exact Or.inl h2
  · exact Or.inr ⟨g', cap', cur, hv2, (h.lt g' (by rw [hv2]; rfl)).1, hr⟩
/-- the two lists of the loop -/
structure Two (w : World) (B : Nat) (v1 v2 : Value) (zs : List Int) (k : Int) (i : Nat) : Prop where
  o1 : w.ownsRow B 3 1 v1 i ((zs.take i).map (Value.int .i64))
  o2 : w.ownsRow B 3 1 v2 i (((zs.take i).map (fun z => z * k)).map (Value.int .i64))
  ne : ∀ g, v1.ownBlock = some g → v2.ownBlock = some g → False
  z : i = 0 → v1 = .slice none 0 0 ∧ v2 = .slice none 0 0
theorem Two.first {wr wa w6 : World} {B g i : Nat} {v1 v2 : Value} {zs : List Int} {k : Int} (h : Two wr B v1 v2 zs k i) (hu : Up wr wa) (hC : Chg (own v1) wa w6) (hat : v1.ownBlock = some g ∨ g = wa.heap.size) :
    w6.ownsRow B 3 1 v2 i (((zs.take i).map (fun z => z * k)).map (Value.int .i64)) ∧ (v2.ownBlock = some g → False) := by
  refine ⟨owned_chgB (raw_up h.o2 hu) hC (fun g' hg' h2 => h.ne g' (own_of h2) hg'), fun h2 => ?_⟩
  rcases hat with h3 | h3
  · exact h.ne g h3 h2
  · have := (h.o2.lt g h2).2
    have := hu.size
    omega
theorem Two.more {w6 wb w7 : World} {B g c g' c' i : Nat} {v2 : Value} {zs : List Int} {k x : Int} (hx : zs[i]? = some x)
    (ho : w6.ownsRow B 3 1 (.slice (some ⟨g, 0, none⟩) (i + 1) c) (i + 1) ((zs.take i).map (Value.int .i64) ++ [Value.int .i64 x])) (hn : v2.ownBlock = some g → False) (hu : Up w6 wb) (hC : Chg (own v2) wb w7) (hat : v2.ownBlock = some g' ∨ g' = wb.heap.size)
    (ho2 : w7.ownsRow B 3 1 (.slice (some ⟨g', 0, none⟩) (i + 1) c') (i + 1) (((zs.take i).map (fun z => z * k)).map (Value.int .i64) ++ [Value.int .i64 (x * k)])) : Two w7 B (.slice (some ⟨g, 0, none⟩) (i + 1) c) (.slice (some ⟨g', 0, none⟩) (i + 1) c') zs k (i + 1) := by
  have hl : i < zs.length := (List.getElem?_eq_some_iff.1 hx).1
  have ht : zs.take (i + 1) = zs.take i ++ [x] := by rw [List.take_succ_eq_append_getElem hl]; simp [(List.getElem?_eq_some_iff.1 hx).2]
  refine ⟨?_, ?_, ?_, fun h => by omega⟩
  · rw [ht, List.map_append]
    exact owned_chgB (raw_up ho hu) hC (fun g2 hg2 h2 => by
      simp only [Value.ownBlock, Option.some.injEq] at hg2
      subst hg2
      exact hn (own_of h2))
  · rw [ht, List.map_append, List.map_append]
    exact ho2
  · intro g2 h1 h2
    simp only [Value.ownBlock, Option.some.injEq] at h1 h2
    subst h1 h2
    rcases hat with h3 | h3
    · exact hn h3
    · have := (ho.lt g' rfl).2
      have := hu.size
      omega
abbrev T1 : St := ⟨40, [⟨1, (0, 0), Z, Z⟩], (0, 0), (0, 0)⟩
abbrev T2 : St := ⟨40, [⟨1, (0, 0), Z, Z⟩, ⟨2, (5, 5), Z, Z⟩], (0, 0), (5, 5)⟩
theorem moveP (pb : Nat) (w : World) (h : Path.PathIs w pb (.slice none 0 0) ⟨40, [], Z, Z⟩) : Calls Try.prog 11 #[.pointer (some ⟨pb, 0, none⟩), .agg #[.int .i64 0, .int .i64 0]] w fun E w' => E = .returned (.int .i64 0) ∧ ∃ v1, Path.PathIs w' pb v1 T1 ∧ Chg [pb] w w' ∧ ∀ g, v1.ownBlock = some g → w.heap.size ≤ g := by
  refine (Path.move_other pb (.slice none 0 0) ⟨40, [], Z, Z⟩ 0 0 w h (by decide) (by decide)).mono ?_
  rintro E w' ⟨rfl, v1, h1, h2, h3⟩
  have e : (St.move ⟨40, [], Z, Z⟩ (0, 0)) = (T1, 0) := by kernel_rfl
  rw [e] at h1 ⊢
  exact ⟨rfl, v1, h1, h2, fun g hg => (h3 g hg).resolve_left (by simp [Value.ownBlock])⟩
theorem lineP (pb : Nat) (v1 : Value) (w : World) (h : Path.PathIs w pb v1 T1) : Calls Try.prog 12 #[.pointer (some ⟨pb, 0, none⟩), .agg #[.int .i64 5, .int .i64 5]] w fun E w' => E = .returned (.int .i64 0) ∧ ∃ v2, Path.PathIs w' pb v2 T2 ∧ Chg (pb :: own v1) w w' ∧ ∀ g, v2.ownBlock = some g → v1.ownBlock = some g ∨ w.heap.size ≤ g := by
  refine (Path.line_calls pb v1 T1 5 5 w h (by decide)).mono ?_
  rintro E w' ⟨rfl, v2, h1, h2, h3⟩
  have e : (St.line T1 (5, 5)) = (T2, 0) := by kernel_rfl
  rw [e] at h1 ⊢
  exact ⟨rfl, v2, h1, h2, h3⟩
theorem item_pen {w : World} {base g cap : Nat} {j : Pt.Item} {l : List Seg} {wd2 ph2 : Int} {ds2 : List Int} (ho : Pt.One1 w base g cap j) (hd : j.dat = strokeD l wd2 ph2 ds2) {N : Nat} (hN : ds2.length = N) : ∃ a c, w.rangeAt g 8 #[.int .i64 wd2, .int .i64 0, .int .i64 0, .int .i64 655360, .slice a N c, .int .i64 ph2].toList ∧ Ints .i64 w (.slice a N c) ds2 := by
  subst hN
  obtain ⟨k, pv, l, sp, p0, p1, p2, p3, cv, cs, wd, cp, jn, mt, dv, ds, ph, fn, m, bv, bs⟩ := j
  simp only [Pt.Item.dat, strokeD, Pt.Dat.mk.injEq, Prod.mk.injEq] at hd
  obtain ⟨_, _, _, _, ⟨rfl, rfl, rfl, rfl⟩, rfl, rfl, _⟩ := hd
  obtain ⟨a, c, e⟩ := len_own ho.it.dv
  simp only at e
  subst e
  refine ⟨a, c, fun j v hj => ?_, owns_ints ho.it.dv ho.it.dw⟩
  have := ho.range (8 + j) v
  rw [Nat.zero_add] at this
  refine this ?_
  match j, hj with
  | 0, hj => exact hj
  | 1, hj => exact hj
  | 2, hj => exact hj
  | 3, hj => exact hj
  | 4, hj => exact hj
  | 5, hj => exact hj
  | j + 6, hj => simp at hj

end Go.Proofs.Yteddlahklilncaa.Pp
end
