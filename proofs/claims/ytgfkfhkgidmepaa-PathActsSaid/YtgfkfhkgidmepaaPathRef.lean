/- The reference's path: where the last subpath began, and where one is. -/
import Derived.Test.YtgfkfhkgidmepaaPathX
import Derived.Test.YtgfkfhkgidmepaaPathM5
import Derived.Test.YtgfkfhkgidmepaaPathW8
import Derived.Test.YtgfkfhkgidmepaaPathR
namespace Go.Proofs.Ytgfkfhkgidmepaa.Path
open Go.ChangeShapes Go.WideShapes Go.ChangeAt Go.RowKit
open Go.Proofs.Ytgfkfhkgidmepaa.FixM (fits)
open Go.Proofs.Ytgfkfhkgidmepaa.PathM
set_option linter.unusedVariables false
set_option linter.unusedSimpArgs false

/-- the reference's path in memory -/
structure RefIs (w : World) (b : Nat) (v : Value) (most : Int) (l : List Seg) : Prop where
  row : Row w b #[.int .i64 most, v]
  segs : Segs w v l
  len : l.length ≤ 100000000
theorem RefIs.apart {w : World} {b : Nat} {v : Value} {most : Int} {l : List Seg} (h : RefIs w b v most l) : ∀ g, v.ownBlock = some g → g ≠ b := by
  intro g hg e
  obtain ⟨ty, hb⟩ := h.row
  rcases h.segs.2 with ⟨h1, _⟩ | ⟨g', cap, cur, hv, _, hg', _, _, hs, _⟩
  · rw [h1] at hg; cases hg
  · rw [hv] at hg
    simp only [Value.ownBlock, Option.some.injEq] at hg
    subst hg e
    rw [hb] at hg'
    simp only [Option.some.injEq, Obj.cells.injEq] at hg'
    have := hg'.1
    subst this
    simp at hs
    omega
theorem RefIs.chg {S : List Nat} {w w1 : World} {b : Nat} {v : Value} {most : Int} {l : List Seg} (h : RefIs w b v most l) (hc : Chg S w w1) (hb : b ∉ S) (hn : ∀ g, v.ownBlock = some g → g ∉ S) : RefIs w1 b v most l :=
  ⟨h.row.chg hc hb, h.segs.chg hc hn, h.len⟩
theorem RefIs.up {w w1 : World} {b : Nat} {v : Value} {most : Int} {l : List Seg} (h : RefIs w b v most l) (hc : Up w w1) : RefIs w1 b v most l := h.chg (S := []) (Chg.of_up hc) (by simp) (by simp)

theorem results_start (tmps : Array Value) (w : World) (b2 : Nat) (x y : Int) (h2 : Row w b2 #[.int .i64 x, .int .i64 y]) (e2 : tmps[2]?.getD undef = .pointer (some ⟨b2, 0, none⟩)) :
    (results Try.f38 tmps).run Try.prog w = .ok (.agg #[.int .i64 x, .int .i64 y]) w := by
  have c0 := h2.cell 0 rfl
  have c1 := h2.cell 1 rfl
  simp [results, Try.results38, go_sem, e2, c0, c1]

theorem startOf_step {l : List Seg} {k : Nat} {s : Seg} (h : l[k]? = some s) (hk : s.k ≠ 1) : startOf (l.take (k + 1)) = startOf (l.take k) := by
  rw [take_succ_of h, startOf_append, if_neg hk]
theorem startOf_here {l : List Seg} {k : Nat} {s : Seg} (h : l[k]? = some s) (hk : s.k = 1) : startOf (l.take (k + 1)) = s.a := by
  rw [take_succ_of h, startOf_append, if_pos hk]

set_option maxRecDepth 8000 in
set_option maxHeartbeats 1000000 in
theorem start_calls (b : Nat) (v : Value) (most : Int) (l : List Seg) (w : World) (h : RefIs w b v most l) (x y : Int) (hxy : startOf l = (x, y)) :
    Calls Try.prog 38 #[.pointer (some ⟨b, 0, none⟩)] w fun E w' => E = .returned (.agg #[.int .i64 x, .int .i64 y]) ∧ Up w w' := by
  have hlt := h.row.lt
  have hlen := h.len
  have q1 : w.cell? ⟨b, 1, none⟩ = some v := h.row.cell 1 rfl
  have HS := Lib.hid h.segs
  have hb1 : b < w.heap.size + 1 := by omega
  rcases h.segs.form with ⟨rfl, rfl⟩ | ⟨g, cap, rfl, hn, hm, hg⟩
  · obtain ⟨rfl, rfl⟩ : 0 = x ∧ 0 = y := by
      have : ((0 : Int), (0 : Int)) = (x, y) := hxy
      injection this with e1 e2
      exact ⟨e1, e2⟩
    clear h
    go_enter Try.func38, Try.ntmps38
    go_wp2
    refine wp_loop_rounds 1 ?_
    repeat any_goals (rw [rounds_succ]; go_wp2)
    (try simp only [Exit.inBlock, Exit.then])
    refine bodyPost_ret (results_start _ _ w.heap.size 0 0 (by apply cast; (case h => (repeat (first | (with_reducible assumption) | (with_reducible apply Row.at; (simp; done)) | (with_reducible apply Row.alloc) | (with_reducible apply Row.drew) | (with_reducible apply Row.drewN) | (with_reducible apply Row.set) | ((with_reducible apply Row.other); (case hp => first | (simp; done) | (simp; omega) | omega))))); (case e => rfl)) rfl) rfl ?_
    exact ⟨rfl, by (repeat' (first | (with_reducible exact Up.refl _) | (with_reducible assumption) | (with_reducible refine Up.alloc ?_ _) | (with_reducible refine Up.drew ?_) | (with_reducible refine Up.drewN ?_ _) | (with_reducible refine Up.setCell ?_ ?_ _) | (with_reducible refine Up.call ?_ (by with_reducible assumption)) | go_size))⟩
  · have HX := Lib.hid hxy
    clear h hxy
    have hg1 : g < w.heap.size + 1 := by omega
    go_enter Try.func38, Try.ntmps38
    go_wp2
    go_loopw [3] (fun s3 wr => ∃ k : Nat, k ≤ l.length ∧ s3 = .int .i64 ((k : Int) - 1) ∧ startOf l = startOf (l.take k) ∧ Up w wr ∧ Row wr w.heap.size #[.int .i64 0, .int .i64 0]) (fun s3 _ => (intOf s3 + 1).toNat)
    case atStart => exact ⟨l.length, Nat.le_refl _, rfl, by rw [List.take_length], by (repeat' (first | (with_reducible exact Up.refl _) | (with_reducible assumption) | (with_reducible refine Up.alloc ?_ _) | (with_reducible refine Up.drew ?_) | (with_reducible refine Up.drewN ?_ _) | (with_reducible refine Up.setCell ?_ ?_ _) | (with_reducible refine Up.call ?_ (by with_reducible assumption)) | go_size)), by (repeat' (first | (with_reducible assumption) | (with_reducible refine Row.at _ _ ?_; (simp; done)) | (with_reducible refine Row.alloc ?_ _) | (with_reducible refine Row.drew ?_) | (with_reducible refine Row.drewN ?_ _) | (with_reducible refine Row.other ?_ (by first | (simp; done) | (simp; omega) | omega) _) | (with_reducible refine Row.up ?_ (by with_reducible assumption)) | (with_reducible refine Row.chg ?_ (by with_reducible assumption) (by first | (simp; done) | (simp; omega)))))⟩
    case round =>
      obtain ⟨k, hk, rfl, hst, hup, r2⟩ := hrel
      have qr : wr.cell? ⟨b, 1, none⟩ = some (.slice (some ⟨g, 0, none⟩) l.length cap) := (hup.cells.1 b 1 hlt).trans q1
      have lr := r2.lt
      have t0 : wr.cell? ⟨w.heap.size, 0, none⟩ = some (.int .i64 0) := r2.cell 0 rfl
      have t1 : wr.cell? ⟨w.heap.size, 1, none⟩ = some (.int .i64 0) := r2.cell 1 rfl
      have f0 := r2.free 0
      have f1 := r2.free 1
      have HT := Lib.hid hst
      clear hst
      cases k with
      | zero =>
        obtain ⟨rfl, rfl⟩ : 0 = x ∧ 0 = y := by
          have : ((0 : Int), (0 : Int)) = (x, y) := (HT.out.symm.trans HX.out : startOf (l.take 0) = (x, y))
          injection this with e1 e2
          exact ⟨e1, e2⟩
        go_wp2
        (try simp only [Exit.inBlock, Exit.then])
        refine bodyPost_ret (results_start _ _ w.heap.size 0 0 (by apply cast; (case h => (repeat (first | (with_reducible assumption) | (with_reducible apply Row.at; (simp; done)) | (with_reducible apply Row.alloc) | (with_reducible apply Row.drew) | (with_reducible apply Row.drewN) | (with_reducible apply Row.set) | ((with_reducible apply Row.other); (case hp => first | (simp; done) | (simp; omega) | omega))))); (case e => rfl)) rfl) rfl ?_
        exact ⟨rfl, by (repeat' (first | (with_reducible exact Up.refl _) | (with_reducible assumption) | (with_reducible refine Up.alloc ?_ _) | (with_reducible refine Up.drew ?_) | (with_reducible refine Up.drewN ?_ _) | (with_reducible refine Up.setCell ?_ ?_ _) | (with_reducible refine Up.call ?_ (by with_reducible assumption)) | go_size))⟩
      | succ k =>
        obtain ⟨kk, x0, y0, x1, y1, x2, y2, hsg⟩ : ∃ kk x0 y0 x1 y1 x2 y2, l[k]? = some ⟨kk, (x0, y0), (x1, y1), (x2, y2)⟩ := ⟨_, _, _, _, _, _, _, List.getElem?_eq_getElem (by omega)⟩
        have c0 := (hup.cells.1 g _ hg).trans (HS.out.at k _ hsg 0 (by decide) _ rfl)
        have c1 := (hup.cells.1 g _ hg).trans (HS.out.at k _ hsg 1 (by decide) _ rfl)
        have c2 := (hup.cells.1 g _ hg).trans (HS.out.at k _ hsg 2 (by decide) _ rfl)
        rw [Nat.add_zero] at c0
        dsimp only at c0 c1 c2
        have ek : ((k + 1 : Nat) : Int) - 1 = (k : Int) := by omega
        rw [ek]
        by_cases h1 : kk = 1
        · subst h1
          have HE := Lib.hid (show (x0, y0) = (x, y) from (startOf_here hsg rfl).symm.trans (HT.out.symm.trans HX.out))
          clear hsg
          go_wp2
          (try simp only [Exit.inBlock, Exit.then])
          refine bodyPost_ret (results_start _ _ w.heap.size x0 y0 (by apply cast; (case h => (repeat (first | (with_reducible assumption) | (with_reducible apply Row.at; (simp; done)) | (with_reducible apply Row.alloc) | (with_reducible apply Row.drew) | (with_reducible apply Row.drewN) | (with_reducible apply Row.set) | ((with_reducible apply Row.other); (case hp => first | (simp; done) | (simp; omega) | omega))))); (case e => rfl)) rfl) rfl ?_
          exact ⟨by have := HE.out; injection this with e1 e2; rw [e1, e2], by (repeat' (first | (with_reducible exact Up.refl _) | (with_reducible assumption) | (with_reducible refine Up.alloc ?_ _) | (with_reducible refine Up.drew ?_) | (with_reducible refine Up.drewN ?_ _) | (with_reducible refine Up.setCell ?_ ?_ _) | (with_reducible refine Up.call ?_ (by with_reducible assumption)) | go_size))⟩
        · have d1 : (kk == 1) = false := by simpa using h1
          have HE := Lib.hid (HT.out.trans (startOf_step hsg h1))
          clear hsg h1
          go_wp2
          go_roundw
          case rel => exact ⟨k, by omega, by go_num, HE.out, by (repeat' (first | (with_reducible exact Up.refl _) | (with_reducible assumption) | (with_reducible refine Up.alloc ?_ _) | (with_reducible refine Up.drew ?_) | (with_reducible refine Up.drewN ?_ _) | (with_reducible refine Up.setCell ?_ ?_ _) | (with_reducible refine Up.call ?_ (by with_reducible assumption)) | go_size)), by (repeat' (first | (with_reducible assumption) | (with_reducible refine Row.at _ _ ?_; (simp; done)) | (with_reducible refine Row.alloc ?_ _) | (with_reducible refine Row.drew ?_) | (with_reducible refine Row.drewN ?_ _) | (with_reducible refine Row.other ?_ (by first | (simp; done) | (simp; omega) | omega) _) | (with_reducible refine Row.up ?_ (by with_reducible assumption)) | (with_reducible refine Row.chg ?_ (by with_reducible assumption) (by first | (simp; done) | (simp; omega)))))⟩
          case measure => simp [intOf]

end Go.Proofs.Ytgfkfhkgidmepaa.Path
