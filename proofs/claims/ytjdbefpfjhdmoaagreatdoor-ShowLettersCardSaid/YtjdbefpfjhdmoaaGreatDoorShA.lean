/- The reference's Start, and its Clip and Move of a state whose path is empty; an empty canvas. No condition. -/
import Derived.Test.YtjdbefpfjhdmoaaGreatDoorGs3
import Derived.Test.YtjdbefpfjhdmoaaGreatDoorRmat2
import Derived.Test.YtjdbefpfjhdmoaaGreatDoorRfix
import Derived.Test.YtjdbefpfjhdmoaaGreatDoorStep
import Derived.Deep.RegionLaw
import Derived.Deep.AppendLies
namespace Go.Proofs.YtjdbefpfjhdmoaaGreatDoor.Sh
open Go.ChangeShapes Go.WideShapes Go.ChangeAt Go.RowKit
open Go.Proofs.YtjdbefpfjhdmoaaGreatDoor.Gs
open Go.Proofs.YtjdbefpfjhdmoaaGreatDoor.FixM (fits)
open Go.Proofs.YtjdbefpfjhdmoaaGreatDoor.MatM (M6)
open Go.Proofs.YtjdbefpfjhdmoaaGreatDoor.PathM
open Go.Proofs.YtjdbefpfjhdmoaaGreatDoor.Path
set_option linter.unusedVariables false
set_option linter.unusedSimpArgs false

theorem cast {w : World} {b : Nat} {cs cs2 : Array Value} (h : Row w b cs) (e : cs = cs2) : Row w b cs2 := e ▸ h
/-- the reference's state: nothing clips, its pen is as at first -/
def rsC (c : M6) (fn : Int) (fm : M6) (dk : Bool) (n : Int) (l : Value) : Array Value := #[.int .i64 c.a, .int .i64 c.b, .int .i64 c.c, .int .i64 c.d, .int .i64 c.x, .int .i64 c.y, .int .i64 1, .int .i64 0, .int .i64 0, .int .i64 0, .int .i64 0, .int .i64 65536, .int .i64 0, .int .i64 0, .int .i64 655360, .slice none 0 0, .int .i64 0, .int .i64 fn, .int .i64 fm.a, .int .i64 fm.b, .int .i64 fm.c, .int .i64 fm.d, .int .i64 fm.x, .int .i64 fm.y, .slice none 0 0, .bool dk, .int .i64 n, l]
theorem infoRs : (Tryz.prog.info? 42).map (·.size) = some 28 := by kernel_rfl
theorem results_rs {fn : Func} {i : Nat} (h : fn.results = #[.cell i 42]) (tmps : Array Value) (w : World) (b : Nat) (cs : Array Value) (hr : Row w b cs) (hs : cs.size = 28) (e : tmps.getD i undef = .pointer (some ⟨b, 0, none⟩)) :
    (results fn tmps).run Tryz.prog w = .ok (.agg cs) w := by
  rw [Array.getD_eq_getD_getElem?] at e
  have hl := run_loadAt_mid (P := Tryz.prog) w b 0 42 cs.toList _ (fun j v hj => by rw [Nat.zero_add]; exact hr.cell j (by simpa using hj)) Tryz.underlying42 rfl (by rw [Array.length_toList, hs]; kernel_rfl)
  simp [results, h, go_sem, e] at hl ⊢
  exact hl
set_option maxRecDepth 8000 in
theorem rstart_calls (n : Int) (w : World) : Calls Tryz.prog 16 #[.int .i64 n] w fun E w' => E = .returned (.agg #[.int .i64 65536, .int .i64 0, .int .i64 0, .int .i64 65536, .int .i64 0, .int .i64 0, .int .i64 1, .int .i64 0, .int .i64 0, .int .i64 0, .int .i64 0, .int .i64 65536, .int .i64 0, .int .i64 0, .int .i64 655360, .slice none 0 0, .int .i64 0, .int .i64 (-1), .int .i64 65536, .int .i64 0, .int .i64 0, .int .i64 65536, .int .i64 0, .int .i64 0, .slice none 0 0, .bool false, .int .i64 n, .slice none 0 0]) ∧ Up w w' := by
  go_enter Tryz.func16, Tryz.ntmps16
  go_wp2_with (first
    | (go_at_call 46; ((with_reducible refine (Mat2.ridentity_calls _).mono ?_); rintro E w1 ⟨rfl, hu1⟩; have RZ1 : Row w1 w.heap.size #[.int .i64 0, .int .i64 0, .int .i64 0, .int .i64 0, .int .i64 0, .int .i64 0, .int .i64 0, .int .i64 0, .int .i64 0, .int .i64 0, .int .i64 0, .int .i64 0, .int .i64 0, .int .i64 0, .int .i64 0, .slice none 0 0, .int .i64 0, .int .i64 0, .int .i64 0, .int .i64 0, .int .i64 0, .int .i64 0, .int .i64 0, .int .i64 0, .slice none 0 0, .bool false, .int .i64 0, .slice none 0 0] := Row.up (show Row _ w.heap.size #[.int .i64 0, .int .i64 0, .int .i64 0, .int .i64 0, .int .i64 0, .int .i64 0, .int .i64 0, .int .i64 0, .int .i64 0, .int .i64 0, .int .i64 0, .int .i64 0, .int .i64 0, .int .i64 0, .int .i64 0, .slice none 0 0, .int .i64 0, .int .i64 0, .int .i64 0, .int .i64 0, .int .i64 0, .int .i64 0, .int .i64 0, .int .i64 0, .slice none 0 0, .bool false, .int .i64 0, .slice none 0 0] by (repeat' (first | (with_reducible assumption) | (with_reducible refine Row.at _ _ ?_; (simp; done)) | (with_reducible refine Row.alloc ?_ _) | (with_reducible refine Row.drew ?_) | (with_reducible refine Row.drewN ?_ _) | (with_reducible refine Row.other ?_ (by first | (simp; done) | (simp; omega) | omega) _) | (with_reducible refine Row.up ?_ (by with_reducible assumption)) | (with_reducible refine Row.chg ?_ (by with_reducible assumption) (by first | (simp; done) | (simp; omega)))))) hu1; have z1 := hu1.size; (try simp at z1)))
    | (go_at_call 46; ((with_reducible refine (Mat2.ridentity_calls _).mono ?_); rintro E w2 ⟨rfl, hu2⟩; have RZ2 := RZ1.up hu2; have z2 := hu2.size; (try simp at z2)))
    | ((refine wpList_store_Row rfl 42 (.tmp 2) _ rfl (w.heap.size) #[.int .i64 65536, .int .i64 0, .int .i64 0, .int .i64 65536, .int .i64 0, .int .i64 0, .int .i64 1, .int .i64 0, .int .i64 0, .int .i64 0, .int .i64 0, .int .i64 65536, .int .i64 0, .int .i64 0, .int .i64 655360, .slice none 0 0, .int .i64 0, .int .i64 (-1), .int .i64 65536, .int .i64 0, .int .i64 0, .int .i64 65536, .int .i64 0, .int .i64 0, .slice none 0 0, .bool false, .int .i64 n, .slice none 0 0] rfl rfl #[.int .i64 0, .int .i64 0, .int .i64 0, .int .i64 0, .int .i64 0, .int .i64 0, .int .i64 0, .int .i64 0, .int .i64 0, .int .i64 0, .int .i64 0, .int .i64 0, .int .i64 0, .int .i64 0, .int .i64 0, .slice none 0 0, .int .i64 0, .int .i64 0, .int .i64 0, .int .i64 0, .int .i64 0, .int .i64 0, .int .i64 0, .int .i64 0, .slice none 0 0, .bool false, .int .i64 0, .slice none 0 0] (by (repeat' (first | (with_reducible assumption) | (with_reducible refine Row.at _ _ ?_; (simp; done)) | (with_reducible refine Row.alloc ?_ _) | (with_reducible refine Row.drew ?_) | (with_reducible refine Row.drewN ?_ _) | (with_reducible refine Row.other ?_ (by first | (simp; done) | (simp; omega) | omega) _) | (with_reducible refine Row.up ?_ (by with_reducible assumption)) | (with_reducible refine Row.chg ?_ (by with_reducible assumption) (by first | (simp; done) | (simp; omega)))))) infoRs rfl rfl (by simp [Value.oneCell']) ?_); intro w9 hr_w9 hc_w9))
  (try simp only [Exit.inBlock, Exit.then])
  refine bodyPost_ret (results_rs rfl _ _ w.heap.size #[.int .i64 65536, .int .i64 0, .int .i64 0, .int .i64 65536, .int .i64 0, .int .i64 0, .int .i64 1, .int .i64 0, .int .i64 0, .int .i64 0, .int .i64 0, .int .i64 65536, .int .i64 0, .int .i64 0, .int .i64 655360, .slice none 0 0, .int .i64 0, .int .i64 (-1), .int .i64 65536, .int .i64 0, .int .i64 0, .int .i64 65536, .int .i64 0, .int .i64 0, .slice none 0 0, .bool false, .int .i64 n, .slice none 0 0] (by (repeat' (first | (with_reducible assumption) | (with_reducible refine Row.at _ _ ?_; (simp; done)) | (with_reducible refine Row.alloc ?_ _) | (with_reducible refine Row.drew ?_) | (with_reducible refine Row.drewN ?_ _) | (with_reducible refine Row.other ?_ (by first | (simp; done) | (simp; omega) | omega) _) | (with_reducible refine Row.up ?_ (by with_reducible assumption)) | (with_reducible refine Row.chg ?_ (by with_reducible assumption) (by first | (simp; done) | (simp; omega)))))) rfl rfl) rfl ?_
  exact ⟨rfl, (show Chg [] w w9 by (repeat' (first | (with_reducible exact Chg.refl _ _) | (with_reducible assumption) | (with_reducible refine Chg.alloc ?_ _) | (with_reducible refine Chg.drew ?_) | (with_reducible refine Chg.drewN ?_ _) | (with_reducible refine Chg.setCell ?_ ?_ _) | (with_reducible refine Chg.upc ?_ (by with_reducible assumption)) | (with_reducible refine Chg.call ?_ (by with_reducible assumption) ?_) | (refine Or.inl ?_; (simp; done)) | (simp; done) | (simp; omega) | omega))).up⟩

set_option maxRecDepth 8000 in
theorem rclip_calls (b : Nat) (c : M6) (fn : Int) (fm : M6) (dk : Bool) (n : Int) (x : Bool) (w : World) (h : Row w b (rsC c fn fm dk n (.slice none 0 0))) :
    Calls Tryz.prog 19 #[.pointer (some ⟨b, 0, none⟩), .bool x] w fun E w' => E = .returned (.int .i64 0) ∧ Row w' b (rsC c fn fm true n (.slice none 0 0)) ∧ Chg [b] w w' := by
  have HR := Lib.hid h
  have q24 : w.cell? ⟨b, 24, none⟩ = some (.slice none 0 0) := h.cell 24 rfl
  have q27 : w.cell? ⟨b, 27, none⟩ = some (.slice none 0 0) := h.cell 27 rfl
  have q25 : w.cell? ⟨b, 25, none⟩ = some (.bool dk) := h.cell 25 rfl
  have f25 := h.free 25
  have RB := h
  clear h
  go_enter Tryz.func19, Tryz.ntmps19
  go_wp2
  go_ret
  exact ⟨rfl, (by apply cast; (case h => (repeat (first | (with_reducible assumption) | (with_reducible apply Row.at; (simp; done)) | (with_reducible apply Row.alloc) | (with_reducible apply Row.drew) | (with_reducible apply Row.drewN) | (with_reducible apply Row.set) | ((with_reducible apply Row.other); (case hp => first | (simp; done) | (simp; omega) | omega))))); (case e => rfl)), by (repeat' (first | (with_reducible exact Chg.refl _ _) | (with_reducible assumption) | (with_reducible refine Chg.alloc ?_ _) | (with_reducible refine Chg.drew ?_) | (with_reducible refine Chg.drewN ?_ _) | (with_reducible refine Chg.setCell ?_ ?_ _) | (with_reducible refine Chg.upc ?_ (by with_reducible assumption)) | (with_reducible refine Chg.call ?_ (by with_reducible assumption) ?_) | (refine Or.inl ?_; (simp; done)) | (simp; done) | (simp; omega) | omega))⟩

set_option maxRecDepth 8000 in
theorem pnew_calls (w : World) :
    Calls Tryz.prog 15 #[.int .i64 6553600, .int .i64 6553600, .int .i64 2] w fun E w' => ∃ b, E = .returned (.tuple #[.pointer (some ⟨b, 0, none⟩), .int .i64 0]) ∧ w.heap.size ≤ b ∧ Row w' b #[.int .i64 6553600, .int .i64 6553600, .slice none 0 0, .int .i64 2, .slice none 0 0] ∧ Up w w' := by
  have hs : ∀ w : World, Calls Tryz.prog 45 #[.int .i64 6553600] w fun E w' => E = .returned (.bool true) ∧ w = w' := by
    intro w
    go_enter Tryz.func45, Tryz.ntmps45
    go_wp2
    go_ret
    exact ⟨rfl, rfl⟩
  have HS := Lib.hid hs
  clear hs
  go_enter Tryz.func15, Tryz.ntmps15
  go_wp2_with (go_at_call 45; ((with_reducible refine (HS.out _).mono ?_); rintro E w1 ⟨rfl, rfl⟩))
  go_returns
  exact ⟨w.heap.size, rfl, Nat.le_refl _, by (repeat' (first | (with_reducible assumption) | (with_reducible refine Row.at _ _ ?_; (simp; done)) | (with_reducible refine Row.alloc ?_ _) | (with_reducible refine Row.drew ?_) | (with_reducible refine Row.drewN ?_ _) | (with_reducible refine Row.other ?_ (by first | (simp; done) | (simp; omega) | omega) _) | (with_reducible refine Row.up ?_ (by with_reducible assumption)) | (with_reducible refine Row.chg ?_ (by with_reducible assumption) (by first | (simp; done) | (simp; omega))))), by (repeat' (first | (with_reducible exact Up.refl _) | (with_reducible assumption) | (with_reducible refine Up.alloc ?_ _) | (with_reducible refine Up.drew ?_) | (with_reducible refine Up.drewN ?_ _) | (with_reducible refine Up.setCell ?_ ?_ _) | (with_reducible refine Up.call ?_ (by with_reducible assumption)) | go_size))⟩

theorem fitsPoint_calls (x y : Int) (w : World) :
    Calls Tryz.prog 51 #[.agg #[.int .i64 x, .int .i64 y]] w fun e w' => e = .returned (.bool (fitsP (x, y))) ∧ w' = w.alloc (.cells #[.int .i64 x, .int .i64 y] 24) := by
  by_cases h1 : fits x = true
  · have H := Lib.hid (show fitsP (x, y) = fits y by simp [fitsP, h1])
    go_enter Tryz.func51, Tryz.ntmps51
    go_wp2_with (first
      | (go_at_call 65; ((with_reducible refine (Rfix.fits_calls _ _).mono ?_); rintro E w1 ⟨rfl, rfl⟩; (try rw [h1]))))
    go_ret
    exact ⟨by rw [H.out]; rfl, rfl⟩
  · have h1 : fits x = false := by simpa using h1
    have H := Lib.hid (show fitsP (x, y) = false by simp [fitsP, h1])
    go_enter Tryz.func51, Tryz.ntmps51
    go_wp2_with (first
      | (go_at_call 65; ((with_reducible refine (Rfix.fits_calls _ _).mono ?_); rintro E w1 ⟨rfl, rfl⟩; (try rw [h1]))))
    go_ret
    exact ⟨by rw [H.out]; rfl, rfl⟩

theorem news_at {w : World} {g : Nat} {cs : Array Value} {l : List Value} (h : Row w g cs) (e : cs.toList = l) : ∀ j u, l[j]? = some u → w.cell? ((⟨g, 0, none⟩ : Addr).add j) = some u := fun j u hu => by
  rw [add_plain, Nat.zero_add]
  exact h.cell j (by subst e; simpa using hu)
theorem made_at {w : World} {g : Nat} (e : g = w.heap.size) : (w.alloc (.cells #[] 114)).ownsRow 0 114 7 (.slice (some ⟨g, 0, none⟩) 0 0) 0 [] := by
  subst e
  exact World.ownsRow_made w #[] 0 (Nat.zero_le _) (by decide) rfl
theorem raw_up {w w1 : World} {e : TypeId} {k : Nat} {v : Value} {n : Nat} {xs : List Value} (h : w.ownsRow 0 e k v n xs) (hc : Up w w1) : w1.ownsRow 0 e k v n xs := by
  refine ⟨h.1, ?_⟩
  rcases h.2 with h1 | ⟨g, cap, cur, hv, hb, hg, hr⟩
  · exact Or.inl h1
  · refine Or.inr ⟨g, cap, cur, hv, hb, ?_, hr⟩
    rw [hc.block g (Array.getElem?_eq_some_iff.1 hg).1]
    exact hg
theorem made_any {P : Prop} (h : P) : P := h
/-- what Move leaves of the reference's state -/
def Moved (w : World) (b : Nat) (c : M6) (fn : Int) (fm : M6) (dk : Bool) (n x y : Int) (w' : World) : Prop := ∃ v, Row w' b (rsC c fn fm dk n v) ∧ Segs w' v [⟨1, (x, y), Z, Z⟩] ∧ Chg [b] w w' ∧ ∀ g, v.ownBlock = some g → w.heap.size ≤ g
theorem Moved.stored {w wa w2 : World} {b g2 c2 H : Nat} {va : Value} {c : M6} {fn : Int} {fm : M6} {dk : Bool} {n x y : Int} (h : Row w b (rsC c fn fm dk n (.slice none 0 0))) (hua : Up w wa) (hva : ∀ g, va.ownBlock = some g → w.heap.size ≤ g) (hc : Chg (own va) wa w2)
    (hat : va.ownBlock = some g2 ∨ g2 = H) (hH : wa.heap.size ≤ H) (ho : w2.ownsRow 0 114 7 (.slice (some ⟨g2, 0, none⟩) 1 c2) 1 (segCells [⟨1, (x, y), Z, Z⟩])) :
    Moved w b c fn fm dk n x y (w2.setCell ⟨b, 27, none⟩ (.slice (some ⟨g2, 0, none⟩) 1 c2)) := by
  have hb := h.lt
  have hz := hua.size
  have hgw : w.heap.size ≤ g2 := by
    rcases hat with h1 | h1
    · exact hva g2 h1
    · omega
  have hC : Chg [] w w2 := (Chg.of_up hua).call hc (fun x hx => Or.inr (hva x (own_of hx)))
  have hR : Row w2 b _ := h.chg hC (by simp)
  refine ⟨.slice (some ⟨g2, 0, none⟩) 1 c2, Row.put hR rfl, ?_, (hC.mono (by simp)).setCell (Or.inl (by simp)) _, fun g hg => by simp only [Value.ownBlock, Option.some.injEq] at hg; omega⟩
  exact ownsRow_setCell_other ho (fun e => by simp only [Value.ownBlock, Option.some.injEq] at e; omega) _

set_option maxRecDepth 8000 in
set_option maxHeartbeats 2000000 in
theorem rmove_calls (b : Nat) (c : M6) (fn : Int) (fm : M6) (dk : Bool) (n x y : Int) (hn : 1 ≤ n) (w : World) (h : Row w b (rsC c fn fm dk n (.slice none 0 0))) :
    Calls Tryz.prog 22 #[.pointer (some ⟨b, 26, none⟩), .agg #[.int .i64 x, .int .i64 y]] w fun E w' => (fitsP (x, y) = true ∧ E = .returned (.int .i64 0) ∧ Moved w b c fn fm dk n x y w') ∨ (fitsP (x, y) = false ∧ E = .returned (.int .i64 11) ∧ Up w w') := by
  have hlt := h.lt
  have q0 : w.cell? ⟨b, 26, none⟩ = some (.int .i64 n) := h.cell 26 rfl
  have q1 : w.cell? ⟨b, 27, none⟩ = some (.slice none 0 0) := h.cell 27 rfl
  have HR := Lib.hid h
  obtain ⟨i0, ji, jz0, jz1, jz2⟩ := info_parts infoSeg
  have hb1 : b < w.heap.size + 1 := by omega
  have hb2 : b < w.heap.size + 1 + 1 := by omega
  have hb3 : b < w.heap.size + 1 + 1 + 1 := by omega
  have hb4 : b < w.heap.size + 1 + 1 + 1 + 1 := by omega
  have hb5 : b < w.heap.size + 1 + 1 + 1 + 1 + 1 := by omega
  clear h
  by_cases hf : fitsP (x, y) = true
  · refine Calls.mono (R := fun E w' => E = .returned (.int .i64 0) ∧ Moved w b c fn fm dk n x y w') ?_ (fun E w' h2 => Or.inl ⟨hf, h2⟩)
    have HF := Lib.hid hf
    have dm : decide (n < 1) = false := decide_eq_false (by omega)
    clear hf
    go_enter Tryz.func22, Tryz.ntmps22
    go_wp2_with (go_at_call 51; ((with_reducible refine (fitsPoint_calls _ _ _).mono ?_); rintro E w1 ⟨rfl, rfl⟩; rw [HF.out]))
    go_region_law (first
      | (refine step_append_lies _ rfl (.tmp 60) (.tmp 62) 38 rfl 0 114 i0 _ 7 56 Tryz.underlying38 ji jz0 jz1 jz2 rfl (by decide) (.slice (some ⟨w.heap.size + 1 + 1 + 1 + 1, 0, none⟩) 0 0) 0 [] rfl (made_any (by first | exact made_at (by simp) | exact raw_up (made_at (by simp)) (Up.drew (Up.refl _)) | exact raw_up (made_at (by simp)) (Up.drew (Up.alloc (Up.refl _) _)) | exact raw_up (made_at (by simp)) (Up.alloc (Up.refl _) _))) _ 1 1 (segCells [⟨1, (x, y), Z, Z⟩]) rfl rfl (news_at (show Row _ _ #[.int .i64 1, .int .i64 x, .int .i64 y, .int .i64 0, .int .i64 0, .int .i64 0, .int .i64 0] by (repeat' (first | (with_reducible assumption) | (with_reducible refine Row.at _ _ ?_; (simp; done)) | (with_reducible refine Row.alloc ?_ _) | (with_reducible refine Row.drew ?_) | (with_reducible refine Row.drewN ?_ _) | (with_reducible refine Row.other ?_ (by first | (simp; done) | (simp; omega) | omega) _) | (with_reducible refine Row.up ?_ (by with_reducible assumption)) | (with_reducible refine Row.chg ?_ (by with_reducible assumption) (by first | (simp; done) | (simp; omega)))))) rfl) (segCells_one _) (by decide) (by decide) (by decide) (Nat.zero_le _) _ rfl ?_; intro g2 c2 w2 hown hgr hat hg1; have HST := Lib.hid (Moved.stored HR.out (show Up w _ by (repeat' (first | (with_reducible exact Up.refl _) | (with_reducible assumption) | (with_reducible refine Up.alloc ?_ _) | (with_reducible refine Up.drew ?_) | (with_reducible refine Up.drewN ?_ _) | (with_reducible refine Up.setCell ?_ ?_ _) | (with_reducible refine Up.call ?_ (by with_reducible assumption)) | go_size))) (fun g hg => by simp only [Value.ownBlock, Option.some.injEq] at hg; omega) (Chg.grown (Chg.refl (own (.slice (some ⟨w.heap.size + 1 + 1 + 1 + 1, 0, none⟩) 0 0)) _) hgr (fun k hk => Or.inl (own_mem hk))) hat (Nat.le_refl _) hown); have hCw : Chg [] w w2 := (Chg.of_up (show Up w _ by (repeat' (first | (with_reducible exact Up.refl _) | (with_reducible assumption) | (with_reducible refine Up.alloc ?_ _) | (with_reducible refine Up.drew ?_) | (with_reducible refine Up.drewN ?_ _) | (with_reducible refine Up.setCell ?_ ?_ _) | (with_reducible refine Up.call ?_ (by with_reducible assumption)) | go_size)))).call (Chg.grown (Chg.refl (own (.slice (some ⟨w.heap.size + 1 + 1 + 1 + 1, 0, none⟩) 0 0)) _) hgr (fun k hk => Or.inl (own_mem hk))) (fun x hx => Or.inr (by have := own_of hx; simp only [Value.ownBlock, Option.some.injEq] at this; omega)); have hRw := HR.out.chg hCw (by simp); have z1 : w2.cell? ⟨b, 27, none⟩ = some (.slice none 0 0) := hRw.cell 27 rfl; have zf := hRw.free 27; clear hown hat hgr hCw hRw)
      | (refine step_append_lies _ rfl (.tmp 60) (.tmp 62) 38 rfl 0 114 i0 _ 7 56 Tryz.underlying38 ji jz0 jz1 jz2 rfl (by decide) (.slice (some ⟨w.heap.size + 1 + 1 + 1, 0, none⟩) 0 0) 0 [] rfl (made_any (by first | exact made_at (by simp) | exact raw_up (made_at (by simp)) (Up.drew (Up.refl _)) | exact raw_up (made_at (by simp)) (Up.drew (Up.alloc (Up.refl _) _)) | exact raw_up (made_at (by simp)) (Up.alloc (Up.refl _) _))) _ 1 1 (segCells [⟨1, (x, y), Z, Z⟩]) rfl rfl (news_at (show Row _ _ #[.int .i64 1, .int .i64 x, .int .i64 y, .int .i64 0, .int .i64 0, .int .i64 0, .int .i64 0] by (repeat' (first | (with_reducible assumption) | (with_reducible refine Row.at _ _ ?_; (simp; done)) | (with_reducible refine Row.alloc ?_ _) | (with_reducible refine Row.drew ?_) | (with_reducible refine Row.drewN ?_ _) | (with_reducible refine Row.other ?_ (by first | (simp; done) | (simp; omega) | omega) _) | (with_reducible refine Row.up ?_ (by with_reducible assumption)) | (with_reducible refine Row.chg ?_ (by with_reducible assumption) (by first | (simp; done) | (simp; omega)))))) rfl) (segCells_one _) (by decide) (by decide) (by decide) (Nat.zero_le _) _ rfl ?_; intro g2 c2 w2 hown hgr hat hg1; have HST := Lib.hid (Moved.stored HR.out (show Up w _ by (repeat' (first | (with_reducible exact Up.refl _) | (with_reducible assumption) | (with_reducible refine Up.alloc ?_ _) | (with_reducible refine Up.drew ?_) | (with_reducible refine Up.drewN ?_ _) | (with_reducible refine Up.setCell ?_ ?_ _) | (with_reducible refine Up.call ?_ (by with_reducible assumption)) | go_size))) (fun g hg => by simp only [Value.ownBlock, Option.some.injEq] at hg; omega) (Chg.grown (Chg.refl (own (.slice (some ⟨w.heap.size + 1 + 1 + 1, 0, none⟩) 0 0)) _) hgr (fun k hk => Or.inl (own_mem hk))) hat (Nat.le_refl _) hown); have hCw : Chg [] w w2 := (Chg.of_up (show Up w _ by (repeat' (first | (with_reducible exact Up.refl _) | (with_reducible assumption) | (with_reducible refine Up.alloc ?_ _) | (with_reducible refine Up.drew ?_) | (with_reducible refine Up.drewN ?_ _) | (with_reducible refine Up.setCell ?_ ?_ _) | (with_reducible refine Up.call ?_ (by with_reducible assumption)) | go_size)))).call (Chg.grown (Chg.refl (own (.slice (some ⟨w.heap.size + 1 + 1 + 1, 0, none⟩) 0 0)) _) hgr (fun k hk => Or.inl (own_mem hk))) (fun x hx => Or.inr (by have := own_of hx; simp only [Value.ownBlock, Option.some.injEq] at this; omega)); have hRw := HR.out.chg hCw (by simp); have z1 : w2.cell? ⟨b, 27, none⟩ = some (.slice none 0 0) := hRw.cell 27 rfl; have zf := hRw.free 27; clear hown hat hgr hCw hRw))
    all_goals go_wp2
    all_goals
      go_ret
      exact ⟨rfl, HST.out⟩
  · have hf : fitsP (x, y) = false := by simpa using hf
    refine Calls.mono (R := fun E w' => E = .returned (.int .i64 11) ∧ Up w w') ?_ (fun E w' h2 => Or.inr ⟨hf, h2⟩)
    have HF := Lib.hid hf
    clear hf
    go_enter Tryz.func22, Tryz.ntmps22
    go_wp2_with (go_at_call 51; ((with_reducible refine (fitsPoint_calls _ _ _).mono ?_); rintro E w1 ⟨rfl, rfl⟩; rw [HF.out]))
    go_ret
    exact ⟨rfl, by (repeat' (first | (with_reducible exact Up.refl _) | (with_reducible assumption) | (with_reducible refine Up.alloc ?_ _) | (with_reducible refine Up.drew ?_) | (with_reducible refine Up.drewN ?_ _) | (with_reducible refine Up.setCell ?_ ?_ _) | (with_reducible refine Up.call ?_ (by with_reducible assumption)) | go_size))⟩

end Go.Proofs.YtjdbefpfjhdmoaaGreatDoor.Sh