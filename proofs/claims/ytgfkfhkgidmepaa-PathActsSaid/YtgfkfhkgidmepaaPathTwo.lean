/- A path and the reference's path side by side, and a call of each. -/
import Derived.Test.YtgfkfhkgidmepaaPathRef7
import Derived.Test.YtgfkfhkgidmepaaPathM6
import Derived.Deep.DrawnRows
namespace Go.Proofs.Ytgfkfhkgidmepaa.Path
open Go.ChangeShapes Go.WideShapes Go.ChangeAt Go.RowKit
open Go.Proofs.Ytgfkfhkgidmepaa.PathM
set_option linter.unusedVariables false
set_option linter.unusedSimpArgs false
attribute [local go_sem ↓] Go.wp_at_zero Go.wp_at_succ

/-- a path and the reference's, apart from each other, in blocks from B on -/
structure Two (B g m : Nat) (most : Int) (l k : List Seg) (v mv : Value) (w : World) : Prop where
  path : PathIs w g v (stOf most l)
  ref : RefIs w m mv most k
  gm : g ≠ m
  vm : ∀ x, v.ownBlock = some x → x ≠ m
  mg : ∀ x, mv.ownBlock = some x → x ≠ g
  vv : ∀ x, v.ownBlock = some x → mv.ownBlock ≠ some x
  gB : B ≤ g
  mB : B ≤ m
  vB : ∀ x, v.ownBlock = some x → B ≤ x
  mvB : ∀ x, mv.ownBlock = some x → B ≤ x
theorem Two.up {B g m : Nat} {most : Int} {l k : List Seg} {v mv : Value} {w w1 : World} (h : Two B g m most l k v mv w) (hu : Up w w1) : Two B g m most l k v mv w1 :=
  ⟨h.path.up hu, h.ref.up hu, h.gm, h.vm, h.mg, h.vv, h.gB, h.mB, h.vB, h.mvB⟩
theorem Two.chg {S : List Nat} {B g m : Nat} {most : Int} {l k : List Seg} {v mv : Value} {w w1 : World} (h : Two B g m most l k v mv w) (hu : Chg S w w1) (hg : g ∉ S) (hm : m ∉ S) (hv : ∀ x, v.ownBlock = some x → x ∉ S) (hmv : ∀ x, mv.ownBlock = some x → x ∉ S) : Two B g m most l k v mv w1 :=
  ⟨h.path.chg hu hg hv, h.ref.chg hu hm hmv, h.gm, h.vm, h.mg, h.vv, h.gB, h.mB, h.vB, h.mvB⟩
theorem segs_lt {w : World} {v : Value} {l : List Seg} (h : Segs w v l) : ∀ x, v.ownBlock = some x → x < w.heap.size := by
  intro x hx
  rcases h.form with ⟨rfl, _⟩ | ⟨g, cap, rfl, _, _, hg⟩
  · cases hx
  · simp only [Value.ownBlock, Option.some.injEq] at hx
    omega
theorem Two.left {B g m : Nat} {most : Int} {l k l' : List Seg} {v mv : Value} {w w1 : World} (h : Two B g m most l k v mv w) (hB : B ≤ w.heap.size) (hl : Left w g v (stOf most l') w1) : ∃ v', Two B g m most l' k v' mv w1 := by
  obtain ⟨v', h1, h2, h3⟩ := hl
  have hm := h.ref.row.lt
  have hg := h.path.row.lt
  have hmv := segs_lt h.ref.segs
  refine ⟨v', h1, h.ref.chg h2 ?_ ?_, h.gm, ?_, h.mg, ?_, h.gB, h.mB, ?_, h.mvB⟩
  · intro hx
    rcases List.mem_cons.1 hx with e | e
    · exact h.gm e.symm
    · exact h.vm m (own_of e) rfl
  · intro x hx hy
    rcases List.mem_cons.1 hy with e | e
    · exact h.mg x hx e
    · exact h.vv x (own_of e) hx
  · intro x hx
    rcases h3 x hx with e | e
    · exact h.vm x e
    · omega
  · intro x hx hy
    rcases h3 x hx with e | e
    · exact h.vv x e hy
    · have := hmv x hy; omega
  · intro x hx
    rcases h3 x hx with e | e
    · exact h.vB x e
    · omega
theorem Two.rleft {B g m : Nat} {most : Int} {l k k' : List Seg} {v mv : Value} {w w1 : World} (h : Two B g m most l k v mv w) (hB : B ≤ w.heap.size) (hl : RLeft w m mv most k' w1) : ∃ mv', Two B g m most l k' v mv' w1 := by
  obtain ⟨mv', h1, h2, h3⟩ := hl
  have hm := h.ref.row.lt
  have hg := h.path.row.lt
  have hv := segs_lt h.path.segs
  refine ⟨mv', h.path.chg h2 ?_ ?_, h1, h.gm, h.vm, ?_, ?_, h.gB, h.mB, h.vB, ?_⟩
  · intro hx
    exact h.gm (List.mem_singleton.1 hx)
  · intro x hx hy
    exact h.vm x hx (List.mem_singleton.1 hy)
  · intro x hx
    rcases h3 x hx with e | e
    · exact h.mg x e
    · omega
  · intro x hx hy
    rcases h3 x hy with e | e
    · exact h.vv x hx e
    · have := hv x hx; omega
  · intro x hx
    rcases h3 x hx with e | e
    · exact h.mvB x e
    · omega
theorem Left.row {w w1 : World} {b B : Nat} {v : Value} {t : St} {cs : Array Value} (hl : Left w b v t w1) (hR : Row w B cs) (hb : b ≠ B) (hv : ∀ x, v.ownBlock = some x → x ≠ B) : Row w1 B cs := by
  obtain ⟨v', _, h2, _⟩ := hl
  refine hR.chg h2 (fun hx => ?_)
  rcases List.mem_cons.1 hx with e | e
  · exact hb e.symm
  · exact hv B (own_of e) rfl
theorem RLeft.row {w w1 : World} {b B : Nat} {v : Value} {most : Int} {l : List Seg} {cs : Array Value} (hl : RLeft w b v most l w1) (hR : Row w B cs) (hb : b ≠ B) : Row w1 B cs := by
  obtain ⟨v', _, h2, _⟩ := hl
  exact hR.chg h2 (fun hx => hb (List.mem_singleton.1 hx).symm)
theorem Left.toChg {w w1 : World} {b : Nat} {v : Value} {t : St} (hl : Left w b v t w1) : Chg (b :: own v) w w1 := by
  obtain ⟨v', _, h2, _⟩ := hl
  exact h2
theorem RLeft.toChg {w w1 : World} {b : Nat} {v : Value} {most : Int} {l : List Seg} (hl : RLeft w b v most l w1) : Chg [b] w w1 := by
  obtain ⟨v', _, h2, _⟩ := hl
  exact h2

theorem pmove (b : Nat) (v : Value) (most : Int) (l : List Seg) (x0 y0 : Int) (w : World) (l' : List Seg) (e : Int) (hE : lMove most l (x0, y0) = (l', e)) (h : PathIs w b v (stOf most l)) (hlen : l.length ≤ 1000) :
    Calls Try.prog 10 #[.pointer (some ⟨b, 0, none⟩), .agg #[.int .i64 x0, .int .i64 y0]] w fun E w' => E = .returned (.int .i64 e) ∧ Left w b v (stOf most l') w' := by
  refine (move_calls b v (stOf most l) x0 y0 w h (show l.length + 2 ≤ 100000000 by omega)).mono fun E w' hh => ?_
  obtain ⟨h1, h2⟩ := hh
  have e1 : (lMove most l (x0, y0)).1 = l' := by rw [hE]
  have e2 : (lMove most l (x0, y0)).2 = e := by rw [hE]
  refine ⟨h1.trans (by rw [← e2]; rfl), ?_⟩
  rw [canon_move most l (x0, y0), e1] at h2
  exact h2
theorem rmove' (b : Nat) (v : Value) (most : Int) (l : List Seg) (x0 y0 : Int) (w : World) (l' : List Seg) (e : Int) (hE : lMove most l (x0, y0) = (l', e)) (h : RefIs w b v most l) (hk0 : lastK l = 0 → l = []) (hlen : l.length ≤ 1000) :
    Calls Try.prog 34 #[.pointer (some ⟨b, 0, none⟩), .agg #[.int .i64 x0, .int .i64 y0]] w fun E w' => E = .returned (.int .i64 e) ∧ RLeft w b v most l' w' := by
  refine (rmove_calls b v most l x0 y0 w h (by omega)).mono fun E w' hh => ?_
  rw [hE] at hh
  exact hh
theorem pline (b : Nat) (v : Value) (most : Int) (l : List Seg) (x0 y0 : Int) (w : World) (l' : List Seg) (e : Int) (hE : lLine most l (x0, y0) = (l', e)) (h : PathIs w b v (stOf most l)) (hlen : l.length ≤ 1000) :
    Calls Try.prog 11 #[.pointer (some ⟨b, 0, none⟩), .agg #[.int .i64 x0, .int .i64 y0]] w fun E w' => E = .returned (.int .i64 e) ∧ Left w b v (stOf most l') w' := by
  refine (line_calls b v (stOf most l) x0 y0 w h (show l.length + 2 ≤ 100000000 by omega)).mono fun E w' hh => ?_
  obtain ⟨h1, h2⟩ := hh
  have e1 : (lLine most l (x0, y0)).1 = l' := by rw [hE]
  have e2 : (lLine most l (x0, y0)).2 = e := by rw [hE]
  refine ⟨h1.trans (by rw [← e2]; rfl), ?_⟩
  rw [canon_line most l (x0, y0), e1] at h2
  exact h2
theorem rline' (b : Nat) (v : Value) (most : Int) (l : List Seg) (x0 y0 : Int) (w : World) (l' : List Seg) (e : Int) (hE : lLine most l (x0, y0) = (l', e)) (h : RefIs w b v most l) (hk0 : lastK l = 0 → l = []) (hlen : l.length ≤ 1000) :
    Calls Try.prog 35 #[.pointer (some ⟨b, 0, none⟩), .agg #[.int .i64 x0, .int .i64 y0]] w fun E w' => E = .returned (.int .i64 e) ∧ RLeft w b v most l' w' := by
  refine (rline_calls b v most l x0 y0 w h hk0 (by omega)).mono fun E w' hh => ?_
  rw [hE] at hh
  exact hh
theorem pcurve (b : Nat) (v : Value) (most : Int) (l : List Seg) (x0 y0 x1 y1 x2 y2 : Int) (w : World) (l' : List Seg) (e : Int) (hE : lCurve most l (x0, y0) (x1, y1) (x2, y2) = (l', e)) (h : PathIs w b v (stOf most l)) (hlen : l.length ≤ 1000) :
    Calls Try.prog 12 #[.pointer (some ⟨b, 0, none⟩), .agg #[.int .i64 x0, .int .i64 y0], .agg #[.int .i64 x1, .int .i64 y1], .agg #[.int .i64 x2, .int .i64 y2]] w fun E w' => E = .returned (.int .i64 e) ∧ Left w b v (stOf most l') w' := by
  refine (curve_calls b v (stOf most l) x0 y0 x1 y1 x2 y2 w h (show l.length + 2 ≤ 100000000 by omega)).mono fun E w' hh => ?_
  obtain ⟨h1, h2⟩ := hh
  have e1 : (lCurve most l (x0, y0) (x1, y1) (x2, y2)).1 = l' := by rw [hE]
  have e2 : (lCurve most l (x0, y0) (x1, y1) (x2, y2)).2 = e := by rw [hE]
  refine ⟨h1.trans (by rw [← e2]; rfl), ?_⟩
  rw [canon_curve most l (x0, y0) (x1, y1) (x2, y2), e1] at h2
  exact h2
theorem rcurve' (b : Nat) (v : Value) (most : Int) (l : List Seg) (x0 y0 x1 y1 x2 y2 : Int) (w : World) (l' : List Seg) (e : Int) (hE : lCurve most l (x0, y0) (x1, y1) (x2, y2) = (l', e)) (h : RefIs w b v most l) (hk0 : lastK l = 0 → l = []) (hlen : l.length ≤ 1000) :
    Calls Try.prog 36 #[.pointer (some ⟨b, 0, none⟩), .agg #[.int .i64 x0, .int .i64 y0], .agg #[.int .i64 x1, .int .i64 y1], .agg #[.int .i64 x2, .int .i64 y2]] w fun E w' => E = .returned (.int .i64 e) ∧ RLeft w b v most l' w' := by
  refine (rcurve_calls b v most l x0 y0 x1 y1 x2 y2 w h hk0 (by omega)).mono fun E w' hh => ?_
  rw [hE] at hh
  exact hh
theorem pclose (b : Nat) (v : Value) (most : Int) (l : List Seg) (w : World) (l' : List Seg) (e : Int) (hE : lClose most l  = (l', e)) (h : PathIs w b v (stOf most l)) (hlen : l.length ≤ 1000) :
    Calls Try.prog 13 #[.pointer (some ⟨b, 0, none⟩)] w fun E w' => E = .returned (.int .i64 e) ∧ Left w b v (stOf most l') w' := by
  refine (close_calls b v (stOf most l)  w h (show l.length + 2 ≤ 100000000 by omega)).mono fun E w' hh => ?_
  obtain ⟨h1, h2⟩ := hh
  have e1 : (lClose most l ).1 = l' := by rw [hE]
  have e2 : (lClose most l ).2 = e := by rw [hE]
  refine ⟨h1.trans (by rw [← e2]; rfl), ?_⟩
  rw [canon_close most l , e1] at h2
  exact h2
theorem rclose' (b : Nat) (v : Value) (most : Int) (l : List Seg) (w : World) (l' : List Seg) (e : Int) (hE : lClose most l  = (l', e)) (h : RefIs w b v most l) (hk0 : lastK l = 0 → l = []) (hlen : l.length ≤ 1000) :
    Calls Try.prog 37 #[.pointer (some ⟨b, 0, none⟩)] w fun E w' => E = .returned (.int .i64 e) ∧ RLeft w b v most l' w' := by
  refine (rclose_calls b v most l  w h hk0 (by omega)).mono fun E w' hh => ?_
  rw [hE] at hh
  exact hh

/-- what a call does -/
def lAct (most : Int) (l : List Seg) (c : Int) (p q r : Pt) : List Seg × Int :=
  if c = 1 then lMove most l p else if c = 2 then lLine most l p else if c = 3 then lCurve most l p q r else if c = 4 then lClose most l else if c = 5 then ([], 0) else (l, 0)
theorem sound_lAct {most : Int} {l : List Seg} {c : Int} {p q r : Pt} (h : soundFrom 0 l = true) : soundFrom 0 (lAct most l c p q r).1 = true := by
  unfold lAct
  split
  · exact sound_lMove h
  · split
    · exact sound_lLine h
    · split
      · exact sound_lCurve h
      · split
        · exact sound_lClose h
        · split
          · rfl
          · exact h
theorem len_lAct (most : Int) (l : List Seg) (c : Int) (p q r : Pt) : (lAct most l c p q r).1.length ≤ l.length + 2 := by
  unfold lAct
  split
  · exact len_lMove ..
  · split
    · exact len_lLine ..
    · split
      · exact len_lCurve ..
      · split
        · exact len_lClose ..
        · split
          · simp
          · simp

def BothPost (B g m : Nat) (most : Int) (l' : List Seg) (e : Int) (v mv : Value) (w : World) (E : Ending) (w' : World) : Prop :=
  E = .returned (.tuple #[.int .i64 e, .int .i64 e]) ∧ (∃ v' mv', Two B g m most l' l' v' mv' w') ∧ Chg (g :: m :: own v) w w'

set_option maxRecDepth 8000 in
set_option maxHeartbeats 2000000 in
theorem both_move (B g m : Nat) (most : Int) (l : List Seg) (v mv : Value) (x0 y0 x1 y1 x2 y2 : Int) (w : World) (l' : List Seg) (e : Int) (hE : lMove most l (x0, y0) = (l', e)) (h : Two B g m most l l v mv w) (hB : B ≤ w.heap.size) (hk0 : lastK l = 0 → l = []) (hlen : l.length ≤ 1000) :
    Calls Try.prog 22 #[.pointer (some ⟨g, 0, none⟩), .pointer (some ⟨m, 0, none⟩), .agg #[.int .i64 1, .int .i64 x0, .int .i64 y0, .int .i64 x1, .int .i64 y1, .int .i64 x2, .int .i64 y2]] w (BothPost B g m most l' e v mv w) := by
  have HE := Lib.hid hE
  have HT := Lib.hid h
  have HK := Lib.hid hk0
  have hg := h.path.row.lt
  have hm := h.ref.row.lt
  have hv := Lib.hid (segs_lt h.path.segs)
  clear h hE hk0
  go_enter Try.func22, Try.ntmps22
  go_wp2
  go_region_held3 (fun w' => w'.cell? ⟨w.heap.size, 1, none⟩ = some (.int .i64 x0) ∧ w'.cell? ⟨w.heap.size, 2, none⟩ = some (.int .i64 y0) ∧ w'.cell? ⟨w.heap.size, 3, none⟩ = some (.int .i64 x1) ∧ w'.cell? ⟨w.heap.size, 4, none⟩ = some (.int .i64 y1) ∧ w'.cell? ⟨w.heap.size, 5, none⟩ = some (.int .i64 x2) ∧ w'.cell? ⟨w.heap.size, 6, none⟩ = some (.int .i64 y2)) (first | with_reducible exact ⟨r1, r2, r3, r4, r5, r6⟩ | with_reducible exact ⟨p1, p2, p3, p4, p5, p6⟩ | go_keep) (first
    | (go_at_call 10; ((with_reducible refine (pmove g v most l x0 y0 _ l' e HE.out (HT.out.path.up (by (repeat' (first | (with_reducible exact Up.refl _) | (with_reducible assumption) | (with_reducible refine Up.alloc ?_ _) | (with_reducible refine Up.drew ?_) | (with_reducible refine Up.drewN ?_ _) | (with_reducible refine Up.setCell ?_ ?_ _) | (with_reducible refine Up.call ?_ (by with_reducible assumption)) | go_size)))) (by omega)).mono ?_); rintro E w1 ⟨rfl, hl1⟩; obtain ⟨v1, ht1⟩ := (HT.out.up (by (repeat' (first | (with_reducible exact Up.refl _) | (with_reducible assumption) | (with_reducible refine Up.alloc ?_ _) | (with_reducible refine Up.drew ?_) | (with_reducible refine Up.drewN ?_ _) | (with_reducible refine Up.setCell ?_ ?_ _) | (with_reducible refine Up.call ?_ (by with_reducible assumption)) | go_size)))).left (by first | omega | (simp; omega)) hl1; have R1 := hl1.row (show Row _ w.heap.size #[.int .i64 1, .int .i64 x0, .int .i64 y0, .int .i64 x1, .int .i64 y1, .int .i64 x2, .int .i64 y2] by (repeat' (first | (with_reducible assumption) | (with_reducible refine Row.at _ _ ?_; (simp; done)) | (with_reducible refine Row.alloc ?_ _) | (with_reducible refine Row.drew ?_) | (with_reducible refine Row.drewN ?_ _) | (with_reducible refine Row.other ?_ (by first | (simp; done) | (simp; omega) | omega) _) | (with_reducible refine Row.up ?_ (by with_reducible assumption)) | (with_reducible refine Row.chg ?_ (by with_reducible assumption) (by first | (simp; done) | (simp; omega)))))) (by omega) (fun x hx => by have := hv.out x hx; omega); have p1 : w1.cell? ⟨w.heap.size, 1, none⟩ = some (.int .i64 x0) := R1.cell 1 rfl; have p2 : w1.cell? ⟨w.heap.size, 2, none⟩ = some (.int .i64 y0) := R1.cell 2 rfl; have p3 : w1.cell? ⟨w.heap.size, 3, none⟩ = some (.int .i64 x1) := R1.cell 3 rfl; have p4 : w1.cell? ⟨w.heap.size, 4, none⟩ = some (.int .i64 y1) := R1.cell 4 rfl; have p5 : w1.cell? ⟨w.heap.size, 5, none⟩ = some (.int .i64 x2) := R1.cell 5 rfl; have p6 : w1.cell? ⟨w.heap.size, 6, none⟩ = some (.int .i64 y2) := R1.cell 6 rfl; have b1 : w.heap.size < w1.heap.size := R1.lt; have HC1 := Lib.hid hl1.toChg; have HT1 := Lib.hid ht1; clear hl1 ht1))
    | (go_at_call 34; ((with_reducible refine (rmove' m mv most l x0 y0 _ l' e HE.out (HT1.out.ref.up (by (repeat' (first | (with_reducible exact Up.refl _) | (with_reducible assumption) | (with_reducible refine Up.alloc ?_ _) | (with_reducible refine Up.drew ?_) | (with_reducible refine Up.drewN ?_ _) | (with_reducible refine Up.setCell ?_ ?_ _) | (with_reducible refine Up.call ?_ (by with_reducible assumption)) | go_size)))) HK.out (by omega)).mono ?_); rintro E w2 ⟨rfl, hl2⟩; obtain ⟨mv2, ht2⟩ := (HT1.out.up (by (repeat' (first | (with_reducible exact Up.refl _) | (with_reducible assumption) | (with_reducible refine Up.alloc ?_ _) | (with_reducible refine Up.drew ?_) | (with_reducible refine Up.drewN ?_ _) | (with_reducible refine Up.setCell ?_ ?_ _) | (with_reducible refine Up.call ?_ (by with_reducible assumption)) | go_size)))).rleft (by first | omega | (simp; omega)) hl2; have R2 := hl2.row (R1.up (by (repeat' (first | (with_reducible exact Up.refl _) | (with_reducible assumption) | (with_reducible refine Up.alloc ?_ _) | (with_reducible refine Up.drew ?_) | (with_reducible refine Up.drewN ?_ _) | (with_reducible refine Up.setCell ?_ ?_ _) | (with_reducible refine Up.call ?_ (by with_reducible assumption)) | go_size)))) (by omega); have r1 : w2.cell? ⟨w.heap.size, 1, none⟩ = some (.int .i64 x0) := R2.cell 1 rfl; have r2 : w2.cell? ⟨w.heap.size, 2, none⟩ = some (.int .i64 y0) := R2.cell 2 rfl; have r3 : w2.cell? ⟨w.heap.size, 3, none⟩ = some (.int .i64 x1) := R2.cell 3 rfl; have r4 : w2.cell? ⟨w.heap.size, 4, none⟩ = some (.int .i64 y1) := R2.cell 4 rfl; have r5 : w2.cell? ⟨w.heap.size, 5, none⟩ = some (.int .i64 x2) := R2.cell 5 rfl; have r6 : w2.cell? ⟨w.heap.size, 6, none⟩ = some (.int .i64 y2) := R2.cell 6 rfl; have b2 : w.heap.size < w2.heap.size := R2.lt; have HC2 := Lib.hid hl2.toChg; have HT2 := Lib.hid ht2; clear hl2 ht2)))
  all_goals go_wp2
  all_goals
    go_ret2
    refine ⟨rfl, ⟨v1, mv2, HT2.out⟩, ?_⟩
    exact (((Chg.of_up (S := g :: m :: own v) (show Up w _ from by (repeat' (first | (with_reducible exact Up.refl _) | (with_reducible assumption) | (with_reducible refine Up.alloc ?_ _) | (with_reducible refine Up.drew ?_) | (with_reducible refine Up.drewN ?_ _) | (with_reducible refine Up.setCell ?_ ?_ _) | (with_reducible refine Up.call ?_ (by with_reducible assumption)) | go_size)))).call HC1.out (fun x hx => Or.inl (by rcases List.mem_cons.1 hx with e1 | e1; (subst e1; simp); simp [e1]))).upc (show Up w1 _ from by (repeat' (first | (with_reducible exact Up.refl _) | (with_reducible assumption) | (with_reducible refine Up.alloc ?_ _) | (with_reducible refine Up.drew ?_) | (with_reducible refine Up.drewN ?_ _) | (with_reducible refine Up.setCell ?_ ?_ _) | (with_reducible refine Up.call ?_ (by with_reducible assumption)) | go_size)))).call HC2.out (fun x hx => Or.inl (by rw [List.mem_singleton.1 hx]; simp))

set_option maxRecDepth 8000 in
set_option maxHeartbeats 2000000 in
theorem both_line (B g m : Nat) (most : Int) (l : List Seg) (v mv : Value) (x0 y0 x1 y1 x2 y2 : Int) (w : World) (l' : List Seg) (e : Int) (hE : lLine most l (x0, y0) = (l', e)) (h : Two B g m most l l v mv w) (hB : B ≤ w.heap.size) (hk0 : lastK l = 0 → l = []) (hlen : l.length ≤ 1000) :
    Calls Try.prog 22 #[.pointer (some ⟨g, 0, none⟩), .pointer (some ⟨m, 0, none⟩), .agg #[.int .i64 2, .int .i64 x0, .int .i64 y0, .int .i64 x1, .int .i64 y1, .int .i64 x2, .int .i64 y2]] w (BothPost B g m most l' e v mv w) := by
  have HE := Lib.hid hE
  have HT := Lib.hid h
  have HK := Lib.hid hk0
  have hg := h.path.row.lt
  have hm := h.ref.row.lt
  have hv := Lib.hid (segs_lt h.path.segs)
  clear h hE hk0
  go_enter Try.func22, Try.ntmps22
  go_wp2
  go_region_held3 (fun w' => w'.cell? ⟨w.heap.size, 1, none⟩ = some (.int .i64 x0) ∧ w'.cell? ⟨w.heap.size, 2, none⟩ = some (.int .i64 y0) ∧ w'.cell? ⟨w.heap.size, 3, none⟩ = some (.int .i64 x1) ∧ w'.cell? ⟨w.heap.size, 4, none⟩ = some (.int .i64 y1) ∧ w'.cell? ⟨w.heap.size, 5, none⟩ = some (.int .i64 x2) ∧ w'.cell? ⟨w.heap.size, 6, none⟩ = some (.int .i64 y2)) (first | with_reducible exact ⟨r1, r2, r3, r4, r5, r6⟩ | with_reducible exact ⟨p1, p2, p3, p4, p5, p6⟩ | go_keep) (first
    | (go_at_call 11; ((with_reducible refine (pline g v most l x0 y0 _ l' e HE.out (HT.out.path.up (by (repeat' (first | (with_reducible exact Up.refl _) | (with_reducible assumption) | (with_reducible refine Up.alloc ?_ _) | (with_reducible refine Up.drew ?_) | (with_reducible refine Up.drewN ?_ _) | (with_reducible refine Up.setCell ?_ ?_ _) | (with_reducible refine Up.call ?_ (by with_reducible assumption)) | go_size)))) (by omega)).mono ?_); rintro E w1 ⟨rfl, hl1⟩; obtain ⟨v1, ht1⟩ := (HT.out.up (by (repeat' (first | (with_reducible exact Up.refl _) | (with_reducible assumption) | (with_reducible refine Up.alloc ?_ _) | (with_reducible refine Up.drew ?_) | (with_reducible refine Up.drewN ?_ _) | (with_reducible refine Up.setCell ?_ ?_ _) | (with_reducible refine Up.call ?_ (by with_reducible assumption)) | go_size)))).left (by first | omega | (simp; omega)) hl1; have R1 := hl1.row (show Row _ w.heap.size #[.int .i64 2, .int .i64 x0, .int .i64 y0, .int .i64 x1, .int .i64 y1, .int .i64 x2, .int .i64 y2] by (repeat' (first | (with_reducible assumption) | (with_reducible refine Row.at _ _ ?_; (simp; done)) | (with_reducible refine Row.alloc ?_ _) | (with_reducible refine Row.drew ?_) | (with_reducible refine Row.drewN ?_ _) | (with_reducible refine Row.other ?_ (by first | (simp; done) | (simp; omega) | omega) _) | (with_reducible refine Row.up ?_ (by with_reducible assumption)) | (with_reducible refine Row.chg ?_ (by with_reducible assumption) (by first | (simp; done) | (simp; omega)))))) (by omega) (fun x hx => by have := hv.out x hx; omega); have p1 : w1.cell? ⟨w.heap.size, 1, none⟩ = some (.int .i64 x0) := R1.cell 1 rfl; have p2 : w1.cell? ⟨w.heap.size, 2, none⟩ = some (.int .i64 y0) := R1.cell 2 rfl; have p3 : w1.cell? ⟨w.heap.size, 3, none⟩ = some (.int .i64 x1) := R1.cell 3 rfl; have p4 : w1.cell? ⟨w.heap.size, 4, none⟩ = some (.int .i64 y1) := R1.cell 4 rfl; have p5 : w1.cell? ⟨w.heap.size, 5, none⟩ = some (.int .i64 x2) := R1.cell 5 rfl; have p6 : w1.cell? ⟨w.heap.size, 6, none⟩ = some (.int .i64 y2) := R1.cell 6 rfl; have b1 : w.heap.size < w1.heap.size := R1.lt; have HC1 := Lib.hid hl1.toChg; have HT1 := Lib.hid ht1; clear hl1 ht1))
    | (go_at_call 35; ((with_reducible refine (rline' m mv most l x0 y0 _ l' e HE.out (HT1.out.ref.up (by (repeat' (first | (with_reducible exact Up.refl _) | (with_reducible assumption) | (with_reducible refine Up.alloc ?_ _) | (with_reducible refine Up.drew ?_) | (with_reducible refine Up.drewN ?_ _) | (with_reducible refine Up.setCell ?_ ?_ _) | (with_reducible refine Up.call ?_ (by with_reducible assumption)) | go_size)))) HK.out (by omega)).mono ?_); rintro E w2 ⟨rfl, hl2⟩; obtain ⟨mv2, ht2⟩ := (HT1.out.up (by (repeat' (first | (with_reducible exact Up.refl _) | (with_reducible assumption) | (with_reducible refine Up.alloc ?_ _) | (with_reducible refine Up.drew ?_) | (with_reducible refine Up.drewN ?_ _) | (with_reducible refine Up.setCell ?_ ?_ _) | (with_reducible refine Up.call ?_ (by with_reducible assumption)) | go_size)))).rleft (by first | omega | (simp; omega)) hl2; have R2 := hl2.row (R1.up (by (repeat' (first | (with_reducible exact Up.refl _) | (with_reducible assumption) | (with_reducible refine Up.alloc ?_ _) | (with_reducible refine Up.drew ?_) | (with_reducible refine Up.drewN ?_ _) | (with_reducible refine Up.setCell ?_ ?_ _) | (with_reducible refine Up.call ?_ (by with_reducible assumption)) | go_size)))) (by omega); have r1 : w2.cell? ⟨w.heap.size, 1, none⟩ = some (.int .i64 x0) := R2.cell 1 rfl; have r2 : w2.cell? ⟨w.heap.size, 2, none⟩ = some (.int .i64 y0) := R2.cell 2 rfl; have r3 : w2.cell? ⟨w.heap.size, 3, none⟩ = some (.int .i64 x1) := R2.cell 3 rfl; have r4 : w2.cell? ⟨w.heap.size, 4, none⟩ = some (.int .i64 y1) := R2.cell 4 rfl; have r5 : w2.cell? ⟨w.heap.size, 5, none⟩ = some (.int .i64 x2) := R2.cell 5 rfl; have r6 : w2.cell? ⟨w.heap.size, 6, none⟩ = some (.int .i64 y2) := R2.cell 6 rfl; have b2 : w.heap.size < w2.heap.size := R2.lt; have HC2 := Lib.hid hl2.toChg; have HT2 := Lib.hid ht2; clear hl2 ht2)))
  all_goals go_wp2
  all_goals
    go_ret2
    refine ⟨rfl, ⟨v1, mv2, HT2.out⟩, ?_⟩
    exact (((Chg.of_up (S := g :: m :: own v) (show Up w _ from by (repeat' (first | (with_reducible exact Up.refl _) | (with_reducible assumption) | (with_reducible refine Up.alloc ?_ _) | (with_reducible refine Up.drew ?_) | (with_reducible refine Up.drewN ?_ _) | (with_reducible refine Up.setCell ?_ ?_ _) | (with_reducible refine Up.call ?_ (by with_reducible assumption)) | go_size)))).call HC1.out (fun x hx => Or.inl (by rcases List.mem_cons.1 hx with e1 | e1; (subst e1; simp); simp [e1]))).upc (show Up w1 _ from by (repeat' (first | (with_reducible exact Up.refl _) | (with_reducible assumption) | (with_reducible refine Up.alloc ?_ _) | (with_reducible refine Up.drew ?_) | (with_reducible refine Up.drewN ?_ _) | (with_reducible refine Up.setCell ?_ ?_ _) | (with_reducible refine Up.call ?_ (by with_reducible assumption)) | go_size)))).call HC2.out (fun x hx => Or.inl (by rw [List.mem_singleton.1 hx]; simp))

set_option maxRecDepth 8000 in
set_option maxHeartbeats 2000000 in
theorem both_curve (B g m : Nat) (most : Int) (l : List Seg) (v mv : Value) (x0 y0 x1 y1 x2 y2 : Int) (w : World) (l' : List Seg) (e : Int) (hE : lCurve most l (x0, y0) (x1, y1) (x2, y2) = (l', e)) (h : Two B g m most l l v mv w) (hB : B ≤ w.heap.size) (hk0 : lastK l = 0 → l = []) (hlen : l.length ≤ 1000) :
    Calls Try.prog 22 #[.pointer (some ⟨g, 0, none⟩), .pointer (some ⟨m, 0, none⟩), .agg #[.int .i64 3, .int .i64 x0, .int .i64 y0, .int .i64 x1, .int .i64 y1, .int .i64 x2, .int .i64 y2]] w (BothPost B g m most l' e v mv w) := by
  have HE := Lib.hid hE
  have HT := Lib.hid h
  have HK := Lib.hid hk0
  have hg := h.path.row.lt
  have hm := h.ref.row.lt
  have hv := Lib.hid (segs_lt h.path.segs)
  clear h hE hk0
  go_enter Try.func22, Try.ntmps22
  go_wp2
  go_region_held3 (fun w' => w'.cell? ⟨w.heap.size, 1, none⟩ = some (.int .i64 x0) ∧ w'.cell? ⟨w.heap.size, 2, none⟩ = some (.int .i64 y0) ∧ w'.cell? ⟨w.heap.size, 3, none⟩ = some (.int .i64 x1) ∧ w'.cell? ⟨w.heap.size, 4, none⟩ = some (.int .i64 y1) ∧ w'.cell? ⟨w.heap.size, 5, none⟩ = some (.int .i64 x2) ∧ w'.cell? ⟨w.heap.size, 6, none⟩ = some (.int .i64 y2)) (first | with_reducible exact ⟨r1, r2, r3, r4, r5, r6⟩ | with_reducible exact ⟨p1, p2, p3, p4, p5, p6⟩ | go_keep) (first
    | (go_at_call 12; ((with_reducible refine (pcurve g v most l x0 y0 x1 y1 x2 y2 _ l' e HE.out (HT.out.path.up (by (repeat' (first | (with_reducible exact Up.refl _) | (with_reducible assumption) | (with_reducible refine Up.alloc ?_ _) | (with_reducible refine Up.drew ?_) | (with_reducible refine Up.drewN ?_ _) | (with_reducible refine Up.setCell ?_ ?_ _) | (with_reducible refine Up.call ?_ (by with_reducible assumption)) | go_size)))) (by omega)).mono ?_); rintro E w1 ⟨rfl, hl1⟩; obtain ⟨v1, ht1⟩ := (HT.out.up (by (repeat' (first | (with_reducible exact Up.refl _) | (with_reducible assumption) | (with_reducible refine Up.alloc ?_ _) | (with_reducible refine Up.drew ?_) | (with_reducible refine Up.drewN ?_ _) | (with_reducible refine Up.setCell ?_ ?_ _) | (with_reducible refine Up.call ?_ (by with_reducible assumption)) | go_size)))).left (by first | omega | (simp; omega)) hl1; have R1 := hl1.row (show Row _ w.heap.size #[.int .i64 3, .int .i64 x0, .int .i64 y0, .int .i64 x1, .int .i64 y1, .int .i64 x2, .int .i64 y2] by (repeat' (first | (with_reducible assumption) | (with_reducible refine Row.at _ _ ?_; (simp; done)) | (with_reducible refine Row.alloc ?_ _) | (with_reducible refine Row.drew ?_) | (with_reducible refine Row.drewN ?_ _) | (with_reducible refine Row.other ?_ (by first | (simp; done) | (simp; omega) | omega) _) | (with_reducible refine Row.up ?_ (by with_reducible assumption)) | (with_reducible refine Row.chg ?_ (by with_reducible assumption) (by first | (simp; done) | (simp; omega)))))) (by omega) (fun x hx => by have := hv.out x hx; omega); have p1 : w1.cell? ⟨w.heap.size, 1, none⟩ = some (.int .i64 x0) := R1.cell 1 rfl; have p2 : w1.cell? ⟨w.heap.size, 2, none⟩ = some (.int .i64 y0) := R1.cell 2 rfl; have p3 : w1.cell? ⟨w.heap.size, 3, none⟩ = some (.int .i64 x1) := R1.cell 3 rfl; have p4 : w1.cell? ⟨w.heap.size, 4, none⟩ = some (.int .i64 y1) := R1.cell 4 rfl; have p5 : w1.cell? ⟨w.heap.size, 5, none⟩ = some (.int .i64 x2) := R1.cell 5 rfl; have p6 : w1.cell? ⟨w.heap.size, 6, none⟩ = some (.int .i64 y2) := R1.cell 6 rfl; have b1 : w.heap.size < w1.heap.size := R1.lt; have HC1 := Lib.hid hl1.toChg; have HT1 := Lib.hid ht1; clear hl1 ht1))
    | (go_at_call 36; ((with_reducible refine (rcurve' m mv most l x0 y0 x1 y1 x2 y2 _ l' e HE.out (HT1.out.ref.up (by (repeat' (first | (with_reducible exact Up.refl _) | (with_reducible assumption) | (with_reducible refine Up.alloc ?_ _) | (with_reducible refine Up.drew ?_) | (with_reducible refine Up.drewN ?_ _) | (with_reducible refine Up.setCell ?_ ?_ _) | (with_reducible refine Up.call ?_ (by with_reducible assumption)) | go_size)))) HK.out (by omega)).mono ?_); rintro E w2 ⟨rfl, hl2⟩; obtain ⟨mv2, ht2⟩ := (HT1.out.up (by (repeat' (first | (with_reducible exact Up.refl _) | (with_reducible assumption) | (with_reducible refine Up.alloc ?_ _) | (with_reducible refine Up.drew ?_) | (with_reducible refine Up.drewN ?_ _) | (with_reducible refine Up.setCell ?_ ?_ _) | (with_reducible refine Up.call ?_ (by with_reducible assumption)) | go_size)))).rleft (by first | omega | (simp; omega)) hl2; have R2 := hl2.row (R1.up (by (repeat' (first | (with_reducible exact Up.refl _) | (with_reducible assumption) | (with_reducible refine Up.alloc ?_ _) | (with_reducible refine Up.drew ?_) | (with_reducible refine Up.drewN ?_ _) | (with_reducible refine Up.setCell ?_ ?_ _) | (with_reducible refine Up.call ?_ (by with_reducible assumption)) | go_size)))) (by omega); have r1 : w2.cell? ⟨w.heap.size, 1, none⟩ = some (.int .i64 x0) := R2.cell 1 rfl; have r2 : w2.cell? ⟨w.heap.size, 2, none⟩ = some (.int .i64 y0) := R2.cell 2 rfl; have r3 : w2.cell? ⟨w.heap.size, 3, none⟩ = some (.int .i64 x1) := R2.cell 3 rfl; have r4 : w2.cell? ⟨w.heap.size, 4, none⟩ = some (.int .i64 y1) := R2.cell 4 rfl; have r5 : w2.cell? ⟨w.heap.size, 5, none⟩ = some (.int .i64 x2) := R2.cell 5 rfl; have r6 : w2.cell? ⟨w.heap.size, 6, none⟩ = some (.int .i64 y2) := R2.cell 6 rfl; have b2 : w.heap.size < w2.heap.size := R2.lt; have HC2 := Lib.hid hl2.toChg; have HT2 := Lib.hid ht2; clear hl2 ht2)))
  all_goals go_wp2
  all_goals
    go_ret2
    refine ⟨rfl, ⟨v1, mv2, HT2.out⟩, ?_⟩
    exact (((Chg.of_up (S := g :: m :: own v) (show Up w _ from by (repeat' (first | (with_reducible exact Up.refl _) | (with_reducible assumption) | (with_reducible refine Up.alloc ?_ _) | (with_reducible refine Up.drew ?_) | (with_reducible refine Up.drewN ?_ _) | (with_reducible refine Up.setCell ?_ ?_ _) | (with_reducible refine Up.call ?_ (by with_reducible assumption)) | go_size)))).call HC1.out (fun x hx => Or.inl (by rcases List.mem_cons.1 hx with e1 | e1; (subst e1; simp); simp [e1]))).upc (show Up w1 _ from by (repeat' (first | (with_reducible exact Up.refl _) | (with_reducible assumption) | (with_reducible refine Up.alloc ?_ _) | (with_reducible refine Up.drew ?_) | (with_reducible refine Up.drewN ?_ _) | (with_reducible refine Up.setCell ?_ ?_ _) | (with_reducible refine Up.call ?_ (by with_reducible assumption)) | go_size)))).call HC2.out (fun x hx => Or.inl (by rw [List.mem_singleton.1 hx]; simp))

set_option maxRecDepth 8000 in
set_option maxHeartbeats 2000000 in
theorem both_close (B g m : Nat) (most : Int) (l : List Seg) (v mv : Value) (x0 y0 x1 y1 x2 y2 : Int) (w : World) (l' : List Seg) (e : Int) (hE : lClose most l  = (l', e)) (h : Two B g m most l l v mv w) (hB : B ≤ w.heap.size) (hk0 : lastK l = 0 → l = []) (hlen : l.length ≤ 1000) :
    Calls Try.prog 22 #[.pointer (some ⟨g, 0, none⟩), .pointer (some ⟨m, 0, none⟩), .agg #[.int .i64 4, .int .i64 x0, .int .i64 y0, .int .i64 x1, .int .i64 y1, .int .i64 x2, .int .i64 y2]] w (BothPost B g m most l' e v mv w) := by
  have HE := Lib.hid hE
  have HT := Lib.hid h
  have HK := Lib.hid hk0
  have hg := h.path.row.lt
  have hm := h.ref.row.lt
  have hv := Lib.hid (segs_lt h.path.segs)
  clear h hE hk0
  go_enter Try.func22, Try.ntmps22
  go_wp2_with (first
    | (go_at_call 13; ((with_reducible refine (pclose g v most l  _ l' e HE.out (HT.out.path.up (by (repeat' (first | (with_reducible exact Up.refl _) | (with_reducible assumption) | (with_reducible refine Up.alloc ?_ _) | (with_reducible refine Up.drew ?_) | (with_reducible refine Up.drewN ?_ _) | (with_reducible refine Up.setCell ?_ ?_ _) | (with_reducible refine Up.call ?_ (by with_reducible assumption)) | go_size)))) (by omega)).mono ?_); rintro E w1 ⟨rfl, hl1⟩; obtain ⟨v1, ht1⟩ := (HT.out.up (by (repeat' (first | (with_reducible exact Up.refl _) | (with_reducible assumption) | (with_reducible refine Up.alloc ?_ _) | (with_reducible refine Up.drew ?_) | (with_reducible refine Up.drewN ?_ _) | (with_reducible refine Up.setCell ?_ ?_ _) | (with_reducible refine Up.call ?_ (by with_reducible assumption)) | go_size)))).left (by first | omega | (simp; omega)) hl1; have R1 := hl1.row (show Row _ w.heap.size #[.int .i64 4, .int .i64 x0, .int .i64 y0, .int .i64 x1, .int .i64 y1, .int .i64 x2, .int .i64 y2] by (repeat' (first | (with_reducible assumption) | (with_reducible refine Row.at _ _ ?_; (simp; done)) | (with_reducible refine Row.alloc ?_ _) | (with_reducible refine Row.drew ?_) | (with_reducible refine Row.drewN ?_ _) | (with_reducible refine Row.other ?_ (by first | (simp; done) | (simp; omega) | omega) _) | (with_reducible refine Row.up ?_ (by with_reducible assumption)) | (with_reducible refine Row.chg ?_ (by with_reducible assumption) (by first | (simp; done) | (simp; omega)))))) (by omega) (fun x hx => by have := hv.out x hx; omega); have p1 : w1.cell? ⟨w.heap.size, 1, none⟩ = some (.int .i64 x0) := R1.cell 1 rfl; have p2 : w1.cell? ⟨w.heap.size, 2, none⟩ = some (.int .i64 y0) := R1.cell 2 rfl; have p3 : w1.cell? ⟨w.heap.size, 3, none⟩ = some (.int .i64 x1) := R1.cell 3 rfl; have p4 : w1.cell? ⟨w.heap.size, 4, none⟩ = some (.int .i64 y1) := R1.cell 4 rfl; have p5 : w1.cell? ⟨w.heap.size, 5, none⟩ = some (.int .i64 x2) := R1.cell 5 rfl; have p6 : w1.cell? ⟨w.heap.size, 6, none⟩ = some (.int .i64 y2) := R1.cell 6 rfl; have b1 : w.heap.size < w1.heap.size := R1.lt; have HC1 := Lib.hid hl1.toChg; have HT1 := Lib.hid ht1; clear hl1 ht1))
    | (go_at_call 37; ((with_reducible refine (rclose' m mv most l  _ l' e HE.out (HT1.out.ref.up (by (repeat' (first | (with_reducible exact Up.refl _) | (with_reducible assumption) | (with_reducible refine Up.alloc ?_ _) | (with_reducible refine Up.drew ?_) | (with_reducible refine Up.drewN ?_ _) | (with_reducible refine Up.setCell ?_ ?_ _) | (with_reducible refine Up.call ?_ (by with_reducible assumption)) | go_size)))) HK.out (by omega)).mono ?_); rintro E w2 ⟨rfl, hl2⟩; obtain ⟨mv2, ht2⟩ := (HT1.out.up (by (repeat' (first | (with_reducible exact Up.refl _) | (with_reducible assumption) | (with_reducible refine Up.alloc ?_ _) | (with_reducible refine Up.drew ?_) | (with_reducible refine Up.drewN ?_ _) | (with_reducible refine Up.setCell ?_ ?_ _) | (with_reducible refine Up.call ?_ (by with_reducible assumption)) | go_size)))).rleft (by first | omega | (simp; omega)) hl2; have R2 := hl2.row (R1.up (by (repeat' (first | (with_reducible exact Up.refl _) | (with_reducible assumption) | (with_reducible refine Up.alloc ?_ _) | (with_reducible refine Up.drew ?_) | (with_reducible refine Up.drewN ?_ _) | (with_reducible refine Up.setCell ?_ ?_ _) | (with_reducible refine Up.call ?_ (by with_reducible assumption)) | go_size)))) (by omega); have r1 : w2.cell? ⟨w.heap.size, 1, none⟩ = some (.int .i64 x0) := R2.cell 1 rfl; have r2 : w2.cell? ⟨w.heap.size, 2, none⟩ = some (.int .i64 y0) := R2.cell 2 rfl; have r3 : w2.cell? ⟨w.heap.size, 3, none⟩ = some (.int .i64 x1) := R2.cell 3 rfl; have r4 : w2.cell? ⟨w.heap.size, 4, none⟩ = some (.int .i64 y1) := R2.cell 4 rfl; have r5 : w2.cell? ⟨w.heap.size, 5, none⟩ = some (.int .i64 x2) := R2.cell 5 rfl; have r6 : w2.cell? ⟨w.heap.size, 6, none⟩ = some (.int .i64 y2) := R2.cell 6 rfl; have b2 : w.heap.size < w2.heap.size := R2.lt; have HC2 := Lib.hid hl2.toChg; have HT2 := Lib.hid ht2; clear hl2 ht2)))
  go_ret2
  refine ⟨rfl, ⟨v1, mv2, HT2.out⟩, ?_⟩
  exact (((Chg.of_up (S := g :: m :: own v) (show Up w _ from by (repeat' (first | (with_reducible exact Up.refl _) | (with_reducible assumption) | (with_reducible refine Up.alloc ?_ _) | (with_reducible refine Up.drew ?_) | (with_reducible refine Up.drewN ?_ _) | (with_reducible refine Up.setCell ?_ ?_ _) | (with_reducible refine Up.call ?_ (by with_reducible assumption)) | go_size)))).call HC1.out (fun x hx => Or.inl (by rcases List.mem_cons.1 hx with e1 | e1; (subst e1; simp); simp [e1]))).upc (show Up w1 _ from by (repeat' (first | (with_reducible exact Up.refl _) | (with_reducible assumption) | (with_reducible refine Up.alloc ?_ _) | (with_reducible refine Up.drew ?_) | (with_reducible refine Up.drewN ?_ _) | (with_reducible refine Up.setCell ?_ ?_ _) | (with_reducible refine Up.call ?_ (by with_reducible assumption)) | go_size)))).call HC2.out (fun x hx => Or.inl (by rw [List.mem_singleton.1 hx]; simp))

set_option maxRecDepth 8000 in
theorem both_clear (B g m : Nat) (most : Int) (l : List Seg) (v mv : Value) (x0 y0 x1 y1 x2 y2 : Int) (w : World) (h : Two B g m most l l v mv w) (hB : B ≤ w.heap.size) :
    Calls Try.prog 22 #[.pointer (some ⟨g, 0, none⟩), .pointer (some ⟨m, 0, none⟩), .agg #[.int .i64 5, .int .i64 x0, .int .i64 y0, .int .i64 x1, .int .i64 y1, .int .i64 x2, .int .i64 y2]] w (BothPost B g m most [] 0 v mv w) := by
  have HT := Lib.hid h
  have hg := h.path.row.lt
  have hm := h.ref.row.lt
  have hgm := h.gm
  have HB := Lib.hid (show B ≤ g ∧ B ≤ m from ⟨h.gB, h.mB⟩)
  clear h
  go_enter Try.func22, Try.ntmps22
  go_wp2_with (go_at_call 8; ((with_reducible refine (clear_calls g v (stOf most l) _ (HT.out.path.up (by (repeat' (first | (with_reducible exact Up.refl _) | (with_reducible assumption) | (with_reducible refine Up.alloc ?_ _) | (with_reducible refine Up.drew ?_) | (with_reducible refine Up.drewN ?_ _) | (with_reducible refine Up.setCell ?_ ?_ _) | (with_reducible refine Up.call ?_ (by with_reducible assumption)) | go_size))))).mono ?_); rintro E w1 ⟨rfl, hp1, hc1⟩; have R1 := (HT.out.ref.row.up (by (repeat' (first | (with_reducible exact Up.refl _) | (with_reducible assumption) | (with_reducible refine Up.alloc ?_ _) | (with_reducible refine Up.drew ?_) | (with_reducible refine Up.drewN ?_ _) | (with_reducible refine Up.setCell ?_ ?_ _) | (with_reducible refine Up.call ?_ (by with_reducible assumption)) | go_size)))).chg hc1 (by simp; omega); have k1 : w1.cell? ⟨m, 1, none⟩ = some mv := R1.cell 1 rfl; have f1 := R1.free 1; have HP1 := Lib.hid hp1; have HC1 := Lib.hid hc1; have HR1 := Lib.hid R1; clear hp1 hc1 R1))
  go_ret2
  have C1 : Chg [g, m] w w1 := ((Chg.of_up (S := [g, m]) (show Up w _ from by (repeat' (first | (with_reducible exact Up.refl _) | (with_reducible assumption) | (with_reducible refine Up.alloc ?_ _) | (with_reducible refine Up.drew ?_) | (with_reducible refine Up.drewN ?_ _) | (with_reducible refine Up.setCell ?_ ?_ _) | (with_reducible refine Up.call ?_ (by with_reducible assumption)) | go_size)))).call HC1.out (fun x hx => Or.inl (by rw [List.mem_singleton.1 hx]; simp)))
  refine ⟨rfl, ⟨.slice none 0 0, .slice none 0 0, ⟨?_, ?_, HT.out.gm, fun x hx => by (cases hx), fun x hx => by (cases hx), fun x hx => by (cases hx), HT.out.gB, HT.out.mB, fun x hx => by (cases hx), fun x hx => by (cases hx)⟩⟩, ?_⟩
  · exact HP1.out.chg (S := [m]) ((Chg.refl _ _).setCell (Or.inl (by simp)) _) (by simp; omega) (fun x hx => by (cases hx))
  · exact ⟨Row.put HR1.out rfl, World.ownsRow_nil _ _ _ _, Nat.zero_le _⟩
  · exact (C1.setCell (Or.inl (by simp)) _).mono (fun x hx => by simp at hx ⊢; rcases hx with e | e; (exact Or.inl e); (exact Or.inr (Or.inl e)))

set_option maxRecDepth 8000 in
theorem both_none (B g m : Nat) (most : Int) (l : List Seg) (v mv : Value) (c x0 y0 x1 y1 x2 y2 : Int) (w : World) (h : Two B g m most l l v mv w) (h1 : (c == 1) = false) (h2 : (c == 2) = false) (h3 : (c == 3) = false) (h4 : (c == 4) = false) (h5 : (c == 5) = false) :
    Calls Try.prog 22 #[.pointer (some ⟨g, 0, none⟩), .pointer (some ⟨m, 0, none⟩), .agg #[.int .i64 c, .int .i64 x0, .int .i64 y0, .int .i64 x1, .int .i64 y1, .int .i64 x2, .int .i64 y2]] w (BothPost B g m most l 0 v mv w) := by
  have HT := Lib.hid h
  clear h
  go_enter Try.func22, Try.ntmps22
  go_wp2
  go_ret2
  exact ⟨rfl, ⟨v, mv, HT.out.up (by (repeat' (first | (with_reducible exact Up.refl _) | (with_reducible assumption) | (with_reducible refine Up.alloc ?_ _) | (with_reducible refine Up.drew ?_) | (with_reducible refine Up.drewN ?_ _) | (with_reducible refine Up.setCell ?_ ?_ _) | (with_reducible refine Up.call ?_ (by with_reducible assumption)) | go_size)))⟩, Chg.of_up (by (repeat' (first | (with_reducible exact Up.refl _) | (with_reducible assumption) | (with_reducible refine Up.alloc ?_ _) | (with_reducible refine Up.drew ?_) | (with_reducible refine Up.drewN ?_ _) | (with_reducible refine Up.setCell ?_ ?_ _) | (with_reducible refine Up.call ?_ (by with_reducible assumption)) | go_size)))⟩

theorem both_calls (B g m : Nat) (most : Int) (l : List Seg) (v mv : Value) (c x0 y0 x1 y1 x2 y2 : Int) (w : World) (l' : List Seg) (e : Int) (hE : lAct most l c (x0, y0) (x1, y1) (x2, y2) = (l', e)) (h : Two B g m most l l v mv w) (hB : B ≤ w.heap.size) (hk0 : lastK l = 0 → l = []) (hlen : l.length ≤ 1000) :
    Calls Try.prog 22 #[.pointer (some ⟨g, 0, none⟩), .pointer (some ⟨m, 0, none⟩), .agg #[.int .i64 c, .int .i64 x0, .int .i64 y0, .int .i64 x1, .int .i64 y1, .int .i64 x2, .int .i64 y2]] w (BothPost B g m most l' e v mv w) := by
  unfold lAct at hE
  split at hE
  · next h1 => subst h1; exact both_move B g m most l v mv x0 y0 x1 y1 x2 y2 w l' e hE h hB hk0 hlen
  · next h1 =>
    split at hE
    · next h2 => subst h2; exact both_line B g m most l v mv x0 y0 x1 y1 x2 y2 w l' e hE h hB hk0 hlen
    · next h2 =>
      split at hE
      · next h3 => subst h3; exact both_curve B g m most l v mv x0 y0 x1 y1 x2 y2 w l' e hE h hB hk0 hlen
      · next h3 =>
        split at hE
        · next h4 => subst h4; exact both_close B g m most l v mv x0 y0 x1 y1 x2 y2 w l' e hE h hB hk0 hlen
        · next h4 =>
          split at hE
          · next h5 =>
            subst h5
            injection hE with e1 e2
            subst e1 e2
            exact both_clear B g m most l v mv x0 y0 x1 y1 x2 y2 w h hB
          · next h5 =>
            injection hE with e1 e2
            subst e1 e2
            exact both_none B g m most l v mv c x0 y0 x1 y1 x2 y2 w h (by simpa using h1) (by simpa using h2) (by simpa using h3) (by simpa using h4) (by simpa using h5)

end Go.Proofs.Ytgfkfhkgidmepaa.Path
