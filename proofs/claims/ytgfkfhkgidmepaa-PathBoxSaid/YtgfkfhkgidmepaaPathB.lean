/- A path's box. -/
import Derived.Test.YtgfkfhkgidmepaaPathW9
import Derived.Lib.MinMax
namespace Go.Proofs.Ytgfkfhkgidmepaa.Path
open Go.ChangeShapes Go.WideShapes Go.ChangeAt Go.RowKit
open Go.Proofs.Ytgfkfhkgidmepaa.FixM (fits)
open Go.Proofs.Ytgfkfhkgidmepaa.PathM
set_option linter.unusedVariables false
set_option linter.unusedSimpArgs false

theorem Row.cast {w : World} {b : Nat} {cs cs2 : Array Value} (h : Row w b cs) (e : cs = cs2) : Row w b cs2 := e ▸ h
theorem boxOf_bad {l : List Seg} (h : sound l = false) : boxOf l = (Z, Z, false) := by unfold boxOf; rw [h]; simp
theorem SegV.head {w : World} {b o : Nat} {l : List Seg} (hs : SegAt w b o l) (h0 : 0 < l.length) : ∃ s r, l = s :: r ∧ w.cell? ⟨b, o + 1, none⟩ = some (.int .i64 s.a.1) ∧ w.cell? ⟨b, o + 2, none⟩ = some (.int .i64 s.a.2) := by
  match l, h0 with
  | s :: r, _ =>
    have h1 := hs 0 s 1 _ rfl rfl
    have h2 := hs 0 s 2 _ rfl rfl
    rw [Nat.zero_mul, Nat.add_zero] at h1 h2
    exact ⟨s, r, rfl, h1, h2⟩

theorem results_box (tmps : Array Value) (w : World) (b2 b3 : Nat) (x y u v : Int) (r : Bool) (h2 : Row w b2 #[.int .i64 x, .int .i64 y]) (h3 : Row w b3 #[.int .i64 u, .int .i64 v])
    (e2 : tmps[2]?.getD undef = .pointer (some ⟨b2, 0, none⟩)) (e3 : tmps[3]?.getD undef = .pointer (some ⟨b3, 0, none⟩)) (e4 : tmps[4]?.getD undef = .bool r) :
    (results Try.f17 tmps).run Try.prog w = .ok (.tuple #[.agg #[.int .i64 x, .int .i64 y], .agg #[.int .i64 u, .int .i64 v], .bool r]) w := by
  have c20 := h2.cell 0 rfl
  have c21 := h2.cell 1 rfl
  have c30 := h3.cell 0 rfl
  have c31 := h3.cell 1 rfl
  simp [results, Try.results17, go_sem, e2, e3, e4, c20, c21, c30, c31]

theorem box_bad (v : Value) (l : List Seg) (w : World) (h : SegV w v l) (hs : sound l = false) :
    Calls Try.prog 17 #[v] w fun e w' => e = .returned (.tuple #[.agg #[.int .i64 0, .int .i64 0], .agg #[.int .i64 0, .int .i64 0], .bool false]) ∧ Up w w' := by
  have HV := Lib.hid h
  have HS := Lib.hid hs
  clear h hs
  go_enter Try.func17, Try.ntmps17
  go_wp2_with (go_at_call 19; ((with_reducible refine (sound_calls v l _ (HV.out.up (by (repeat' (first | (with_reducible exact Up.refl _) | (with_reducible assumption) | (with_reducible refine Up.alloc ?_ _) | (with_reducible refine Up.drew ?_) | (with_reducible refine Up.drewN ?_ _) | (with_reducible refine Up.setCell ?_ ?_ _) | (with_reducible refine Up.call ?_ (by with_reducible assumption)) | go_size))))).mono ?_); rintro E w1 ⟨rfl, hu1⟩; rw [HS.out]; have hz1 := hu1.size; simp at hz1; have r2 : Row w1 w.heap.size #[.int .i64 0, .int .i64 0] := Row.up (by (repeat' (first | (with_reducible assumption) | (with_reducible refine Row.at _ _ ?_; (simp; done)) | (with_reducible refine Row.alloc ?_ _) | (with_reducible refine Row.drew ?_) | (with_reducible refine Row.drewN ?_ _) | (with_reducible refine Row.other ?_ (by first | (simp; done) | (simp; omega) | omega) _) | (with_reducible refine Row.up ?_ (by with_reducible assumption)) | (with_reducible refine Row.chg ?_ (by with_reducible assumption) (by first | (simp; done) | (simp; omega)))))) hu1; have r3 : Row w1 (w.heap.size + 1) #[.int .i64 0, .int .i64 0] := Row.up (by (repeat' (first | (with_reducible assumption) | (with_reducible refine Row.at _ _ ?_; (simp; done)) | (with_reducible refine Row.alloc ?_ _) | (with_reducible refine Row.drew ?_) | (with_reducible refine Row.drewN ?_ _) | (with_reducible refine Row.other ?_ (by first | (simp; done) | (simp; omega) | omega) _) | (with_reducible refine Row.up ?_ (by with_reducible assumption)) | (with_reducible refine Row.chg ?_ (by with_reducible assumption) (by first | (simp; done) | (simp; omega)))))) hu1; have l3 := r3.lt; have l2 := r2.lt; have q20 : w1.cell? ⟨w.heap.size, 0, none⟩ = some (.int .i64 0) := r2.cell 0 rfl; have q21 : w1.cell? ⟨w.heap.size, 1, none⟩ = some (.int .i64 0) := r2.cell 1 rfl; have q30 : w1.cell? ⟨w.heap.size + 1, 0, none⟩ = some (.int .i64 0) := r3.cell 0 rfl; have q31 : w1.cell? ⟨w.heap.size + 1, 1, none⟩ = some (.int .i64 0) := r3.cell 1 rfl; have f20 := r2.free 0; have f21 := r2.free 1; have f30 := r3.free 0; have f31 := r3.free 1))
  (try simp only [Exit.inBlock, Exit.then])
  refine bodyPost_ret (results_box _ _ w.heap.size (w.heap.size + 1) 0 0 0 0 _ (by apply Row.cast; (case h => (repeat (first | (with_reducible assumption) | (with_reducible apply Row.at; (simp; done)) | (with_reducible apply Row.alloc) | (with_reducible apply Row.drew) | (with_reducible apply Row.drewN) | (with_reducible apply Row.set) | ((with_reducible apply Row.other); (case hp => first | (simp; done) | (simp; omega) | omega))))); (case e => rfl)) (by apply Row.cast; (case h => (repeat (first | (with_reducible assumption) | (with_reducible apply Row.at; (simp; done)) | (with_reducible apply Row.alloc) | (with_reducible apply Row.drew) | (with_reducible apply Row.drewN) | (with_reducible apply Row.set) | ((with_reducible apply Row.other); (case hp => first | (simp; done) | (simp; omega) | omega))))); (case e => rfl)) rfl rfl rfl) rfl ?_
  exact ⟨rfl, by (repeat' (first | (with_reducible exact Up.refl _) | (with_reducible assumption) | (with_reducible refine Up.alloc ?_ _) | (with_reducible refine Up.drew ?_) | (with_reducible refine Up.drewN ?_ _) | (with_reducible refine Up.setCell ?_ ?_ _) | (with_reducible refine Up.call ?_ (by with_reducible assumption)) | go_size))⟩

theorem box_empty (v : Value) (w : World) (h : SegV w v []) :
    Calls Try.prog 17 #[v] w fun e w' => e = .returned (.tuple #[.agg #[.int .i64 0, .int .i64 0], .agg #[.int .i64 0, .int .i64 0], .bool false]) ∧ Up w w' := by
  have HV := Lib.hid h
  have HS := Lib.hid (show sound [] = true from rfl)
  rcases h with ⟨a, cap, rfl, -⟩ | ⟨b, o, cap, rfl, h0, _⟩
  · go_enter Try.func17, Try.ntmps17
    go_wp2_with (go_at_call 19; ((with_reducible refine (sound_calls _ [] _ (HV.out.up (by (repeat' (first | (with_reducible exact Up.refl _) | (with_reducible assumption) | (with_reducible refine Up.alloc ?_ _) | (with_reducible refine Up.drew ?_) | (with_reducible refine Up.drewN ?_ _) | (with_reducible refine Up.setCell ?_ ?_ _) | (with_reducible refine Up.call ?_ (by with_reducible assumption)) | go_size))))).mono ?_); rintro E w1 ⟨rfl, hu1⟩; rw [HS.out]; have hz1 := hu1.size; simp at hz1; have r2 : Row w1 w.heap.size #[.int .i64 0, .int .i64 0] := Row.up (by (repeat' (first | (with_reducible assumption) | (with_reducible refine Row.at _ _ ?_; (simp; done)) | (with_reducible refine Row.alloc ?_ _) | (with_reducible refine Row.drew ?_) | (with_reducible refine Row.drewN ?_ _) | (with_reducible refine Row.other ?_ (by first | (simp; done) | (simp; omega) | omega) _) | (with_reducible refine Row.up ?_ (by with_reducible assumption)) | (with_reducible refine Row.chg ?_ (by with_reducible assumption) (by first | (simp; done) | (simp; omega)))))) hu1; have r3 : Row w1 (w.heap.size + 1) #[.int .i64 0, .int .i64 0] := Row.up (by (repeat' (first | (with_reducible assumption) | (with_reducible refine Row.at _ _ ?_; (simp; done)) | (with_reducible refine Row.alloc ?_ _) | (with_reducible refine Row.drew ?_) | (with_reducible refine Row.drewN ?_ _) | (with_reducible refine Row.other ?_ (by first | (simp; done) | (simp; omega) | omega) _) | (with_reducible refine Row.up ?_ (by with_reducible assumption)) | (with_reducible refine Row.chg ?_ (by with_reducible assumption) (by first | (simp; done) | (simp; omega)))))) hu1; have l3 := r3.lt; have l2 := r2.lt; have q20 : w1.cell? ⟨w.heap.size, 0, none⟩ = some (.int .i64 0) := r2.cell 0 rfl; have q21 : w1.cell? ⟨w.heap.size, 1, none⟩ = some (.int .i64 0) := r2.cell 1 rfl; have q30 : w1.cell? ⟨w.heap.size + 1, 0, none⟩ = some (.int .i64 0) := r3.cell 0 rfl; have q31 : w1.cell? ⟨w.heap.size + 1, 1, none⟩ = some (.int .i64 0) := r3.cell 1 rfl; have f20 := r2.free 0; have f21 := r2.free 1; have f30 := r3.free 0; have f31 := r3.free 1))
    (try simp only [Exit.inBlock, Exit.then])
    refine bodyPost_ret (results_box _ _ w.heap.size (w.heap.size + 1) 0 0 0 0 _ (by apply Row.cast; (case h => (repeat (first | (with_reducible assumption) | (with_reducible apply Row.at; (simp; done)) | (with_reducible apply Row.alloc) | (with_reducible apply Row.drew) | (with_reducible apply Row.drewN) | (with_reducible apply Row.set) | ((with_reducible apply Row.other); (case hp => first | (simp; done) | (simp; omega) | omega))))); (case e => rfl)) (by apply Row.cast; (case h => (repeat (first | (with_reducible assumption) | (with_reducible apply Row.at; (simp; done)) | (with_reducible apply Row.alloc) | (with_reducible apply Row.drew) | (with_reducible apply Row.drewN) | (with_reducible apply Row.set) | ((with_reducible apply Row.other); (case hp => first | (simp; done) | (simp; omega) | omega))))); (case e => rfl)) rfl rfl rfl) rfl ?_
    exact ⟨rfl, by (repeat' (first | (with_reducible exact Up.refl _) | (with_reducible assumption) | (with_reducible refine Up.alloc ?_ _) | (with_reducible refine Up.drew ?_) | (with_reducible refine Up.drewN ?_ _) | (with_reducible refine Up.setCell ?_ ?_ _) | (with_reducible refine Up.call ?_ (by with_reducible assumption)) | go_size))⟩
  · simp at h0

set_option maxRecDepth 8000 in
set_option maxHeartbeats 4000000 in
theorem box_good (v : Value) (l : List Seg) (w : World) (h : SegV w v l) (hs : sound l = true) (h0 : 0 < l.length) :
    Calls Try.prog 17 #[v] w fun e w' => e = .returned (.tuple #[.agg #[.int .i64 (bounds l).1.1, .int .i64 (bounds l).1.2], .agg #[.int .i64 (bounds l).2.1, .int .i64 (bounds l).2.2], .bool true]) ∧ Up w w' := by
  have HV := Lib.hid h
  have HS := Lib.hid hs
  have hall : soundFrom 0 l = true := by unfold sound at hs; simp at hs; exact hs.2
  have HALL := Lib.hid hall
  clear hs hall
  rcases h with ⟨a, cap, rfl, rfl⟩ | ⟨b, o, cap, rfl, -, hb, hs, hl⟩
  · simp at h0
  have HAT := Lib.hid hs
  obtain ⟨s, r, hsr, hc1, hc2⟩ := SegV.head hs h0
  obtain ⟨ax, ay, hax⟩ : ∃ ax ay, s.a = (ax, ay) := ⟨_, _, rfl⟩
  rw [hax] at hc1 hc2
  dsimp only at hc1 hc2
  have HB := Lib.hid (show bounds l = (allPts l).foldl stepP ((ax, ay), (ax, ay)) by rw [hsr]; simp only [bounds, hax])
  have d0 : ((l.length : Int) == 0) = false := by rw [beq_eq_false_iff_ne]; omega
  clear hs hsr hax
  go_enter Try.func17, Try.ntmps17
  go_wp2_with (go_at_call 19; ((with_reducible refine (sound_calls _ l _ (HV.out.up (by (repeat' (first | (with_reducible exact Up.refl _) | (with_reducible assumption) | (with_reducible refine Up.alloc ?_ _) | (with_reducible refine Up.drew ?_) | (with_reducible refine Up.drewN ?_ _) | (with_reducible refine Up.setCell ?_ ?_ _) | (with_reducible refine Up.call ?_ (by with_reducible assumption)) | go_size))))).mono ?_); rintro E w1 ⟨rfl, hu1⟩; rw [HS.out]; have hz1 := hu1.size; simp at hz1; have r2 : Row w1 w.heap.size #[.int .i64 0, .int .i64 0] := Row.up (by (repeat' (first | (with_reducible assumption) | (with_reducible refine Row.at _ _ ?_; (simp; done)) | (with_reducible refine Row.alloc ?_ _) | (with_reducible refine Row.drew ?_) | (with_reducible refine Row.drewN ?_ _) | (with_reducible refine Row.other ?_ (by first | (simp; done) | (simp; omega) | omega) _) | (with_reducible refine Row.up ?_ (by with_reducible assumption)) | (with_reducible refine Row.chg ?_ (by with_reducible assumption) (by first | (simp; done) | (simp; omega)))))) hu1; have r3 : Row w1 (w.heap.size + 1) #[.int .i64 0, .int .i64 0] := Row.up (by (repeat' (first | (with_reducible assumption) | (with_reducible refine Row.at _ _ ?_; (simp; done)) | (with_reducible refine Row.alloc ?_ _) | (with_reducible refine Row.drew ?_) | (with_reducible refine Row.drewN ?_ _) | (with_reducible refine Row.other ?_ (by first | (simp; done) | (simp; omega) | omega) _) | (with_reducible refine Row.up ?_ (by with_reducible assumption)) | (with_reducible refine Row.chg ?_ (by with_reducible assumption) (by first | (simp; done) | (simp; omega)))))) hu1; have l3 := r3.lt; have l2 := r2.lt; have q20 : w1.cell? ⟨w.heap.size, 0, none⟩ = some (.int .i64 0) := r2.cell 0 rfl; have q21 : w1.cell? ⟨w.heap.size, 1, none⟩ = some (.int .i64 0) := r2.cell 1 rfl; have q30 : w1.cell? ⟨w.heap.size + 1, 0, none⟩ = some (.int .i64 0) := r3.cell 0 rfl; have q31 : w1.cell? ⟨w.heap.size + 1, 1, none⟩ = some (.int .i64 0) := r3.cell 1 rfl; have f20 := r2.free 0; have f21 := r2.free 1; have f30 := r3.free 0; have f31 := r3.free 1; have e1 := ((show Up w w1 by (repeat' (first | (with_reducible exact Up.refl _) | (with_reducible assumption) | (with_reducible refine Up.alloc ?_ _) | (with_reducible refine Up.drew ?_) | (with_reducible refine Up.drewN ?_ _) | (with_reducible refine Up.setCell ?_ ?_ _) | (with_reducible refine Up.call ?_ (by with_reducible assumption)) | go_size))).cells.1 b _ hb).trans hc1; have e2 := ((show Up w w1 by (repeat' (first | (with_reducible exact Up.refl _) | (with_reducible assumption) | (with_reducible refine Up.alloc ?_ _) | (with_reducible refine Up.drew ?_) | (with_reducible refine Up.drewN ?_ _) | (with_reducible refine Up.setCell ?_ ?_ _) | (with_reducible refine Up.call ?_ (by with_reducible assumption)) | go_size))).cells.1 b _ hb).trans hc2; have hU1 : Up w w1 := (by (repeat' (first | (with_reducible exact Up.refl _) | (with_reducible assumption) | (with_reducible refine Up.alloc ?_ _) | (with_reducible refine Up.drew ?_) | (with_reducible refine Up.drewN ?_ _) | (with_reducible refine Up.setCell ?_ ?_ _) | (with_reducible refine Up.call ?_ (by with_reducible assumption)) | go_size))); have nb2 : ¬ b = w.heap.size := (by omega); have nb3 : ¬ b = w.heap.size + 1 := (by omega); have nb2' : ¬ w.heap.size = b := (by omega); have nb3' : ¬ w.heap.size + 1 = b := (by omega); ))
  go_region
  go_wp2
  go_loopw [31] (fun i wr => ∃ (k : Nat) (lx ly hx hy : Int), k ≤ l.length ∧ i = .int .i64 k ∧ (allPts (l.take k)).foldl stepP ((ax, ay), (ax, ay)) = ((lx, ly), (hx, hy)) ∧ Up w wr ∧ w.heap.size + 1 < wr.heap.size ∧ Row wr w.heap.size #[.int .i64 lx, .int .i64 ly] ∧ Row wr (w.heap.size + 1) #[.int .i64 hx, .int .i64 hy]) (fun i _ => l.length - (intOf i).toNat)
  case atStart => exact ⟨0, ax, ay, ax, ay, Nat.zero_le _, rfl, rfl, by (repeat' (first | (with_reducible exact Up.refl _) | (with_reducible assumption) | (with_reducible refine Up.alloc ?_ _) | (with_reducible refine Up.drew ?_) | (with_reducible refine Up.drewN ?_ _) | (with_reducible refine Up.setCell ?_ ?_ _) | (with_reducible refine Up.call ?_ (by with_reducible assumption)) | go_size)), by simp; omega, (by apply Row.cast; (case h => (repeat (first | (with_reducible assumption) | (with_reducible apply Row.at; (simp; done)) | (with_reducible apply Row.alloc) | (with_reducible apply Row.drew) | (with_reducible apply Row.drewN) | (with_reducible apply Row.set) | ((with_reducible apply Row.other); (case hp => first | (simp; done) | (simp; omega) | omega))))); (case e => rfl)), (by apply Row.cast; (case h => (repeat (first | (with_reducible assumption) | (with_reducible apply Row.at; (simp; done)) | (with_reducible apply Row.alloc) | (with_reducible apply Row.drew) | (with_reducible apply Row.drewN) | (with_reducible apply Row.set) | ((with_reducible apply Row.other); (case hp => first | (simp; done) | (simp; omega) | omega))))); (case e => rfl))⟩
  case round =>
    obtain ⟨wo, hwo⟩ : ∃ x, x = wr := ⟨wr, rfl⟩
    subst hwo
    obtain ⟨k, lx, ly, hx, hy, hk, rfl, hno, hup, hsz, r2, r3⟩ := hrel
    have m20 : w.heap.size < wo.heap.size := by omega
    have m21 : w.heap.size < wo.heap.size + 1 := by omega
    have m22 : w.heap.size < wo.heap.size + 1 + 1 := by omega
    have m23 : w.heap.size < wo.heap.size + 1 + 1 + 1 := by omega
    have m24 : w.heap.size < wo.heap.size + 1 + 1 + 1 + 1 := by omega
    have m30 : w.heap.size + 1 < wo.heap.size := by omega
    have m31 : w.heap.size + 1 < wo.heap.size + 1 := by omega
    have m32 : w.heap.size + 1 < wo.heap.size + 1 + 1 := by omega
    have m33 : w.heap.size + 1 < wo.heap.size + 1 + 1 + 1 := by omega
    have m34 : w.heap.size + 1 < wo.heap.size + 1 + 1 + 1 + 1 := by omega
    have q20 : wo.cell? ⟨w.heap.size, 0, none⟩ = some (.int .i64 lx) := r2.cell 0 rfl
    have q21 : wo.cell? ⟨w.heap.size, 1, none⟩ = some (.int .i64 ly) := r2.cell 1 rfl
    have q30 : wo.cell? ⟨w.heap.size + 1, 0, none⟩ = some (.int .i64 hx) := r3.cell 0 rfl
    have q31 : wo.cell? ⟨w.heap.size + 1, 1, none⟩ = some (.int .i64 hy) := r3.cell 1 rfl
    have f20 := r2.free 0
    have f21 := r2.free 1
    have f30 := r3.free 0
    have f31 := r3.free 1
    have HN := Lib.hid hno
    clear hno
    by_cases hlt : k < l.length
    · obtain ⟨kk, x0, y0, x1, y1, x2, y2, hg⟩ : ∃ kk x0 y0 x1 y1 x2 y2, l[k]? = some ⟨kk, (x0, y0), (x1, y1), (x2, y2)⟩ := ⟨_, _, _, _, _, _, _, List.getElem?_eq_getElem hlt⟩
      obtain ⟨c0, c1, c2, c3, c4, c5, c6⟩ := HAT.out.seven k _ _ _ _ _ _ _ hg
      replace c0 := (hup.cells.1 b _ hb).trans c0
      replace c1 := (hup.cells.1 b _ hb).trans c1
      replace c2 := (hup.cells.1 b _ hb).trans c2
      replace c3 := (hup.cells.1 b _ hb).trans c3
      replace c4 := (hup.cells.1 b _ hb).trans c4
      replace c5 := (hup.cells.1 b _ hb).trans c5
      replace c6 := (hup.cells.1 b _ hb).trans c6
      have hp : 0 ≤ points kk := by
        have := soundFrom_at HALL.out hg
        unfold soundSeg at this
        simp only [Bool.and_eq_true, decide_eq_true_eq] at this
        exact this.1
      have HST := Lib.hid (allPts_step hg)
      clear hg
      rcases points_cases hp with ⟨rfl, hn⟩ | ⟨rfl, hn⟩ | ⟨rfl, hn⟩ | ⟨rfl, hn⟩
      · have HPT := Lib.hid hn
        clear hp hn
        go_wp2_with (go_at_call 29; ((with_reducible refine (points_calls 1 _).mono ?_); rintro E w1 ⟨rfl, rfl⟩; rw [HPT.out]))
        go_loopw [41] (fun i wr => ∃ (j : Nat) (lx' ly' hx' hy' : Int), j ≤ 1 ∧ i = .int .i64 j ∧ (([(x0, y0)] : List Pt).take j).foldl stepP ((lx, ly), (hx, hy)) = ((lx', ly'), (hx', hy')) ∧ Up w wr ∧ wo.heap.size < wr.heap.size ∧ Row wr wo.heap.size #[.int .i64 1, .int .i64 x0, .int .i64 y0, .int .i64 x1, .int .i64 y1, .int .i64 x2, .int .i64 y2] ∧ Row wr w.heap.size #[.int .i64 lx', .int .i64 ly'] ∧ Row wr (w.heap.size + 1) #[.int .i64 hx', .int .i64 hy']) (fun i _ => 1 - (intOf i).toNat)
        case atStart => exact ⟨0, lx, ly, hx, hy, Nat.zero_le _, rfl, rfl, by (repeat' (first | (with_reducible exact Up.refl _) | (with_reducible assumption) | (with_reducible refine Up.alloc ?_ _) | (with_reducible refine Up.drew ?_) | (with_reducible refine Up.drewN ?_ _) | (with_reducible refine Up.setCell ?_ ?_ _) | (with_reducible refine Up.call ?_ (by with_reducible assumption)) | go_size)), by simp, (by apply Row.cast; (case h => (repeat (first | (with_reducible assumption) | (with_reducible apply Row.at; (simp; done)) | (with_reducible apply Row.alloc) | (with_reducible apply Row.drew) | (with_reducible apply Row.drewN) | (with_reducible apply Row.set) | ((with_reducible apply Row.other); (case hp => first | (simp; done) | (simp; omega) | omega))))); (case e => rfl)), (by apply Row.cast; (case h => (repeat (first | (with_reducible assumption) | (with_reducible apply Row.at; (simp; done)) | (with_reducible apply Row.alloc) | (with_reducible apply Row.drew) | (with_reducible apply Row.drewN) | (with_reducible apply Row.set) | ((with_reducible apply Row.other); (case hp => first | (simp; done) | (simp; omega) | omega))))); (case e => rfl)), (by apply Row.cast; (case h => (repeat (first | (with_reducible assumption) | (with_reducible apply Row.at; (simp; done)) | (with_reducible apply Row.alloc) | (with_reducible apply Row.drew) | (with_reducible apply Row.drewN) | (with_reducible apply Row.set) | ((with_reducible apply Row.other); (case hp => first | (simp; done) | (simp; omega) | omega))))); (case e => rfl))⟩
        case round =>
          obtain ⟨j, lx', ly', hx', hy', hj, rfl, hf, hup2, hsz2, rs, r2', r3'⟩ := hrel
          clear q20 q21 q30 q31 f20 f21 f30 f31 r2 r3
          have q20 : wr.cell? ⟨w.heap.size, 0, none⟩ = some (.int .i64 lx') := r2'.cell 0 rfl
          have q21 : wr.cell? ⟨w.heap.size, 1, none⟩ = some (.int .i64 ly') := r2'.cell 1 rfl
          have q30 : wr.cell? ⟨w.heap.size + 1, 0, none⟩ = some (.int .i64 hx') := r3'.cell 0 rfl
          have q31 : wr.cell? ⟨w.heap.size + 1, 1, none⟩ = some (.int .i64 hy') := r3'.cell 1 rfl
          have f20 := r2'.free 0
          have f21 := r2'.free 1
          have f30 := r3'.free 0
          have f31 := r3'.free 1
          have pm20 : w.heap.size < wr.heap.size := by omega
          have pm21 : w.heap.size < wr.heap.size + 1 := by omega
          have pm30 : w.heap.size + 1 < wr.heap.size := by omega
          have pm31 : w.heap.size + 1 < wr.heap.size + 1 := by omega
          have pmg0 : wo.heap.size < wr.heap.size := by omega
          have pmg1 : wo.heap.size < wr.heap.size + 1 := by omega
          have HFO := Lib.hid hf
          clear hf
          by_cases hjn : j < 1
          · obtain ⟨px, py, hpt⟩ : ∃ px py, ([(x0, y0)] : List Pt)[j]? = some (px, py) := ⟨_, _, List.getElem?_eq_getElem (by simpa using hjn)⟩
            obtain ⟨p0, p1⟩ := (fun i p hp => segPts0 rs i p (by match i, hp with | 0, hp => exact hp | i + 1, hp => simp at hp) : Pts _ wo.heap.size 1 [(x0, y0)]) j _ hpt
            dsimp only at p0 p1
            have HG := Lib.hid (show (([(x0, y0)] : List Pt).take (j + 1)).foldl stepP ((lx, ly), (hx, hy)) = ((min lx' px, min ly' py), (max hx' px, max hy' py)) by
              rw [take_succ_of hpt, List.foldl_append, HFO.out]; rfl)
            clear hpt
            go_wp2
            go_roundw
            case rel => exact ⟨j + 1, _, _, _, _, by omega, by go_num, HG.out, by (repeat' (first | (with_reducible exact Up.refl _) | (with_reducible assumption) | (with_reducible refine Up.alloc ?_ _) | (with_reducible refine Up.drew ?_) | (with_reducible refine Up.drewN ?_ _) | (with_reducible refine Up.setCell ?_ ?_ _) | (with_reducible refine Up.call ?_ (by with_reducible assumption)) | go_size)), by (try simp); omega, (by apply Row.cast; (case h => (repeat (first | (with_reducible assumption) | (with_reducible apply Row.at; (simp; done)) | (with_reducible apply Row.alloc) | (with_reducible apply Row.drew) | (with_reducible apply Row.drewN) | (with_reducible apply Row.set) | ((with_reducible apply Row.other); (case hp => first | (simp; done) | (simp; omega) | omega))))); (case e => rfl)), (by apply Row.cast; (case h => (repeat (first | (with_reducible assumption) | (with_reducible apply Row.at; (simp; done)) | (with_reducible apply Row.alloc) | (with_reducible apply Row.drew) | (with_reducible apply Row.drewN) | (with_reducible apply Row.set) | ((with_reducible apply Row.other); (case hp => first | (simp; done) | (simp; omega) | omega))))); (case e => rfl)), (by apply Row.cast; (case h => (repeat (first | (with_reducible assumption) | (with_reducible apply Row.at; (simp; done)) | (with_reducible apply Row.alloc) | (with_reducible apply Row.drew) | (with_reducible apply Row.drewN) | (with_reducible apply Row.set) | ((with_reducible apply Row.other); (case hp => first | (simp; done) | (simp; omega) | omega))))); (case e => rfl))⟩
            case measure => first | (simp [intOf]; done) | (simp [intOf]; omega)
          · obtain rfl : j = 1 := by omega
            have HF := Lib.hid (show (allPts (l.take (k + 1))).foldl stepP ((ax, ay), (ax, ay)) = ((lx', ly'), (hx', hy')) by
              rw [HST.out, List.foldl_append, HN.out]; exact HFO.out)
            go_wp2
            go_roundw
            case rel => exact ⟨k + 1, _, _, _, _, by omega, by go_num, HF.out, by (repeat' (first | (with_reducible exact Up.refl _) | (with_reducible assumption) | (with_reducible refine Up.alloc ?_ _) | (with_reducible refine Up.drew ?_) | (with_reducible refine Up.drewN ?_ _) | (with_reducible refine Up.setCell ?_ ?_ _) | (with_reducible refine Up.call ?_ (by with_reducible assumption)) | go_size)), by (try simp); omega, (by apply Row.cast; (case h => (repeat (first | (with_reducible assumption) | (with_reducible apply Row.at; (simp; done)) | (with_reducible apply Row.alloc) | (with_reducible apply Row.drew) | (with_reducible apply Row.drewN) | (with_reducible apply Row.set) | ((with_reducible apply Row.other); (case hp => first | (simp; done) | (simp; omega) | omega))))); (case e => rfl)), (by apply Row.cast; (case h => (repeat (first | (with_reducible assumption) | (with_reducible apply Row.at; (simp; done)) | (with_reducible apply Row.alloc) | (with_reducible apply Row.drew) | (with_reducible apply Row.drewN) | (with_reducible apply Row.set) | ((with_reducible apply Row.other); (case hp => first | (simp; done) | (simp; omega) | omega))))); (case e => rfl))⟩
            case measure => first | (simp [intOf]; done) | (simp [intOf]; omega)
      · have HPT := Lib.hid hn
        clear hp hn
        go_wp2_with (go_at_call 29; ((with_reducible refine (points_calls 2 _).mono ?_); rintro E w1 ⟨rfl, rfl⟩; rw [HPT.out]))
        go_loopw [41] (fun i wr => ∃ (j : Nat) (lx' ly' hx' hy' : Int), j ≤ 1 ∧ i = .int .i64 j ∧ (([(x0, y0)] : List Pt).take j).foldl stepP ((lx, ly), (hx, hy)) = ((lx', ly'), (hx', hy')) ∧ Up w wr ∧ wo.heap.size < wr.heap.size ∧ Row wr wo.heap.size #[.int .i64 2, .int .i64 x0, .int .i64 y0, .int .i64 x1, .int .i64 y1, .int .i64 x2, .int .i64 y2] ∧ Row wr w.heap.size #[.int .i64 lx', .int .i64 ly'] ∧ Row wr (w.heap.size + 1) #[.int .i64 hx', .int .i64 hy']) (fun i _ => 1 - (intOf i).toNat)
        case atStart => exact ⟨0, lx, ly, hx, hy, Nat.zero_le _, rfl, rfl, by (repeat' (first | (with_reducible exact Up.refl _) | (with_reducible assumption) | (with_reducible refine Up.alloc ?_ _) | (with_reducible refine Up.drew ?_) | (with_reducible refine Up.drewN ?_ _) | (with_reducible refine Up.setCell ?_ ?_ _) | (with_reducible refine Up.call ?_ (by with_reducible assumption)) | go_size)), by simp, (by apply Row.cast; (case h => (repeat (first | (with_reducible assumption) | (with_reducible apply Row.at; (simp; done)) | (with_reducible apply Row.alloc) | (with_reducible apply Row.drew) | (with_reducible apply Row.drewN) | (with_reducible apply Row.set) | ((with_reducible apply Row.other); (case hp => first | (simp; done) | (simp; omega) | omega))))); (case e => rfl)), (by apply Row.cast; (case h => (repeat (first | (with_reducible assumption) | (with_reducible apply Row.at; (simp; done)) | (with_reducible apply Row.alloc) | (with_reducible apply Row.drew) | (with_reducible apply Row.drewN) | (with_reducible apply Row.set) | ((with_reducible apply Row.other); (case hp => first | (simp; done) | (simp; omega) | omega))))); (case e => rfl)), (by apply Row.cast; (case h => (repeat (first | (with_reducible assumption) | (with_reducible apply Row.at; (simp; done)) | (with_reducible apply Row.alloc) | (with_reducible apply Row.drew) | (with_reducible apply Row.drewN) | (with_reducible apply Row.set) | ((with_reducible apply Row.other); (case hp => first | (simp; done) | (simp; omega) | omega))))); (case e => rfl))⟩
        case round =>
          obtain ⟨j, lx', ly', hx', hy', hj, rfl, hf, hup2, hsz2, rs, r2', r3'⟩ := hrel
          clear q20 q21 q30 q31 f20 f21 f30 f31 r2 r3
          have q20 : wr.cell? ⟨w.heap.size, 0, none⟩ = some (.int .i64 lx') := r2'.cell 0 rfl
          have q21 : wr.cell? ⟨w.heap.size, 1, none⟩ = some (.int .i64 ly') := r2'.cell 1 rfl
          have q30 : wr.cell? ⟨w.heap.size + 1, 0, none⟩ = some (.int .i64 hx') := r3'.cell 0 rfl
          have q31 : wr.cell? ⟨w.heap.size + 1, 1, none⟩ = some (.int .i64 hy') := r3'.cell 1 rfl
          have f20 := r2'.free 0
          have f21 := r2'.free 1
          have f30 := r3'.free 0
          have f31 := r3'.free 1
          have pm20 : w.heap.size < wr.heap.size := by omega
          have pm21 : w.heap.size < wr.heap.size + 1 := by omega
          have pm30 : w.heap.size + 1 < wr.heap.size := by omega
          have pm31 : w.heap.size + 1 < wr.heap.size + 1 := by omega
          have pmg0 : wo.heap.size < wr.heap.size := by omega
          have pmg1 : wo.heap.size < wr.heap.size + 1 := by omega
          have HFO := Lib.hid hf
          clear hf
          by_cases hjn : j < 1
          · obtain ⟨px, py, hpt⟩ : ∃ px py, ([(x0, y0)] : List Pt)[j]? = some (px, py) := ⟨_, _, List.getElem?_eq_getElem (by simpa using hjn)⟩
            obtain ⟨p0, p1⟩ := (fun i p hp => segPts0 rs i p (by match i, hp with | 0, hp => exact hp | i + 1, hp => simp at hp) : Pts _ wo.heap.size 1 [(x0, y0)]) j _ hpt
            dsimp only at p0 p1
            have HG := Lib.hid (show (([(x0, y0)] : List Pt).take (j + 1)).foldl stepP ((lx, ly), (hx, hy)) = ((min lx' px, min ly' py), (max hx' px, max hy' py)) by
              rw [take_succ_of hpt, List.foldl_append, HFO.out]; rfl)
            clear hpt
            go_wp2
            go_roundw
            case rel => exact ⟨j + 1, _, _, _, _, by omega, by go_num, HG.out, by (repeat' (first | (with_reducible exact Up.refl _) | (with_reducible assumption) | (with_reducible refine Up.alloc ?_ _) | (with_reducible refine Up.drew ?_) | (with_reducible refine Up.drewN ?_ _) | (with_reducible refine Up.setCell ?_ ?_ _) | (with_reducible refine Up.call ?_ (by with_reducible assumption)) | go_size)), by (try simp); omega, (by apply Row.cast; (case h => (repeat (first | (with_reducible assumption) | (with_reducible apply Row.at; (simp; done)) | (with_reducible apply Row.alloc) | (with_reducible apply Row.drew) | (with_reducible apply Row.drewN) | (with_reducible apply Row.set) | ((with_reducible apply Row.other); (case hp => first | (simp; done) | (simp; omega) | omega))))); (case e => rfl)), (by apply Row.cast; (case h => (repeat (first | (with_reducible assumption) | (with_reducible apply Row.at; (simp; done)) | (with_reducible apply Row.alloc) | (with_reducible apply Row.drew) | (with_reducible apply Row.drewN) | (with_reducible apply Row.set) | ((with_reducible apply Row.other); (case hp => first | (simp; done) | (simp; omega) | omega))))); (case e => rfl)), (by apply Row.cast; (case h => (repeat (first | (with_reducible assumption) | (with_reducible apply Row.at; (simp; done)) | (with_reducible apply Row.alloc) | (with_reducible apply Row.drew) | (with_reducible apply Row.drewN) | (with_reducible apply Row.set) | ((with_reducible apply Row.other); (case hp => first | (simp; done) | (simp; omega) | omega))))); (case e => rfl))⟩
            case measure => first | (simp [intOf]; done) | (simp [intOf]; omega)
          · obtain rfl : j = 1 := by omega
            have HF := Lib.hid (show (allPts (l.take (k + 1))).foldl stepP ((ax, ay), (ax, ay)) = ((lx', ly'), (hx', hy')) by
              rw [HST.out, List.foldl_append, HN.out]; exact HFO.out)
            go_wp2
            go_roundw
            case rel => exact ⟨k + 1, _, _, _, _, by omega, by go_num, HF.out, by (repeat' (first | (with_reducible exact Up.refl _) | (with_reducible assumption) | (with_reducible refine Up.alloc ?_ _) | (with_reducible refine Up.drew ?_) | (with_reducible refine Up.drewN ?_ _) | (with_reducible refine Up.setCell ?_ ?_ _) | (with_reducible refine Up.call ?_ (by with_reducible assumption)) | go_size)), by (try simp); omega, (by apply Row.cast; (case h => (repeat (first | (with_reducible assumption) | (with_reducible apply Row.at; (simp; done)) | (with_reducible apply Row.alloc) | (with_reducible apply Row.drew) | (with_reducible apply Row.drewN) | (with_reducible apply Row.set) | ((with_reducible apply Row.other); (case hp => first | (simp; done) | (simp; omega) | omega))))); (case e => rfl)), (by apply Row.cast; (case h => (repeat (first | (with_reducible assumption) | (with_reducible apply Row.at; (simp; done)) | (with_reducible apply Row.alloc) | (with_reducible apply Row.drew) | (with_reducible apply Row.drewN) | (with_reducible apply Row.set) | ((with_reducible apply Row.other); (case hp => first | (simp; done) | (simp; omega) | omega))))); (case e => rfl))⟩
            case measure => first | (simp [intOf]; done) | (simp [intOf]; omega)
      · have HPT := Lib.hid hn
        clear hp hn
        go_wp2_with (go_at_call 29; ((with_reducible refine (points_calls 3 _).mono ?_); rintro E w1 ⟨rfl, rfl⟩; rw [HPT.out]))
        go_loopw [41] (fun i wr => ∃ (j : Nat) (lx' ly' hx' hy' : Int), j ≤ 3 ∧ i = .int .i64 j ∧ (([(x0, y0), (x1, y1), (x2, y2)] : List Pt).take j).foldl stepP ((lx, ly), (hx, hy)) = ((lx', ly'), (hx', hy')) ∧ Up w wr ∧ wo.heap.size < wr.heap.size ∧ Row wr wo.heap.size #[.int .i64 3, .int .i64 x0, .int .i64 y0, .int .i64 x1, .int .i64 y1, .int .i64 x2, .int .i64 y2] ∧ Row wr w.heap.size #[.int .i64 lx', .int .i64 ly'] ∧ Row wr (w.heap.size + 1) #[.int .i64 hx', .int .i64 hy']) (fun i _ => 3 - (intOf i).toNat)
        case atStart => exact ⟨0, lx, ly, hx, hy, Nat.zero_le _, rfl, rfl, by (repeat' (first | (with_reducible exact Up.refl _) | (with_reducible assumption) | (with_reducible refine Up.alloc ?_ _) | (with_reducible refine Up.drew ?_) | (with_reducible refine Up.drewN ?_ _) | (with_reducible refine Up.setCell ?_ ?_ _) | (with_reducible refine Up.call ?_ (by with_reducible assumption)) | go_size)), by simp, (by apply Row.cast; (case h => (repeat (first | (with_reducible assumption) | (with_reducible apply Row.at; (simp; done)) | (with_reducible apply Row.alloc) | (with_reducible apply Row.drew) | (with_reducible apply Row.drewN) | (with_reducible apply Row.set) | ((with_reducible apply Row.other); (case hp => first | (simp; done) | (simp; omega) | omega))))); (case e => rfl)), (by apply Row.cast; (case h => (repeat (first | (with_reducible assumption) | (with_reducible apply Row.at; (simp; done)) | (with_reducible apply Row.alloc) | (with_reducible apply Row.drew) | (with_reducible apply Row.drewN) | (with_reducible apply Row.set) | ((with_reducible apply Row.other); (case hp => first | (simp; done) | (simp; omega) | omega))))); (case e => rfl)), (by apply Row.cast; (case h => (repeat (first | (with_reducible assumption) | (with_reducible apply Row.at; (simp; done)) | (with_reducible apply Row.alloc) | (with_reducible apply Row.drew) | (with_reducible apply Row.drewN) | (with_reducible apply Row.set) | ((with_reducible apply Row.other); (case hp => first | (simp; done) | (simp; omega) | omega))))); (case e => rfl))⟩
        case round =>
          obtain ⟨j, lx', ly', hx', hy', hj, rfl, hf, hup2, hsz2, rs, r2', r3'⟩ := hrel
          clear q20 q21 q30 q31 f20 f21 f30 f31 r2 r3
          have q20 : wr.cell? ⟨w.heap.size, 0, none⟩ = some (.int .i64 lx') := r2'.cell 0 rfl
          have q21 : wr.cell? ⟨w.heap.size, 1, none⟩ = some (.int .i64 ly') := r2'.cell 1 rfl
          have q30 : wr.cell? ⟨w.heap.size + 1, 0, none⟩ = some (.int .i64 hx') := r3'.cell 0 rfl
          have q31 : wr.cell? ⟨w.heap.size + 1, 1, none⟩ = some (.int .i64 hy') := r3'.cell 1 rfl
          have f20 := r2'.free 0
          have f21 := r2'.free 1
          have f30 := r3'.free 0
          have f31 := r3'.free 1
          have pm20 : w.heap.size < wr.heap.size := by omega
          have pm21 : w.heap.size < wr.heap.size + 1 := by omega
          have pm30 : w.heap.size + 1 < wr.heap.size := by omega
          have pm31 : w.heap.size + 1 < wr.heap.size + 1 := by omega
          have pmg0 : wo.heap.size < wr.heap.size := by omega
          have pmg1 : wo.heap.size < wr.heap.size + 1 := by omega
          have HFO := Lib.hid hf
          clear hf
          by_cases hjn : j < 3
          · obtain ⟨px, py, hpt⟩ : ∃ px py, ([(x0, y0), (x1, y1), (x2, y2)] : List Pt)[j]? = some (px, py) := ⟨_, _, List.getElem?_eq_getElem (by simpa using hjn)⟩
            obtain ⟨p0, p1⟩ := (segPts0 rs : Pts _ wo.heap.size 1 [(x0, y0), (x1, y1), (x2, y2)]) j _ hpt
            dsimp only at p0 p1
            have HG := Lib.hid (show (([(x0, y0), (x1, y1), (x2, y2)] : List Pt).take (j + 1)).foldl stepP ((lx, ly), (hx, hy)) = ((min lx' px, min ly' py), (max hx' px, max hy' py)) by
              rw [take_succ_of hpt, List.foldl_append, HFO.out]; rfl)
            clear hpt
            go_wp2
            go_roundw
            case rel => exact ⟨j + 1, _, _, _, _, by omega, by go_num, HG.out, by (repeat' (first | (with_reducible exact Up.refl _) | (with_reducible assumption) | (with_reducible refine Up.alloc ?_ _) | (with_reducible refine Up.drew ?_) | (with_reducible refine Up.drewN ?_ _) | (with_reducible refine Up.setCell ?_ ?_ _) | (with_reducible refine Up.call ?_ (by with_reducible assumption)) | go_size)), by (try simp); omega, (by apply Row.cast; (case h => (repeat (first | (with_reducible assumption) | (with_reducible apply Row.at; (simp; done)) | (with_reducible apply Row.alloc) | (with_reducible apply Row.drew) | (with_reducible apply Row.drewN) | (with_reducible apply Row.set) | ((with_reducible apply Row.other); (case hp => first | (simp; done) | (simp; omega) | omega))))); (case e => rfl)), (by apply Row.cast; (case h => (repeat (first | (with_reducible assumption) | (with_reducible apply Row.at; (simp; done)) | (with_reducible apply Row.alloc) | (with_reducible apply Row.drew) | (with_reducible apply Row.drewN) | (with_reducible apply Row.set) | ((with_reducible apply Row.other); (case hp => first | (simp; done) | (simp; omega) | omega))))); (case e => rfl)), (by apply Row.cast; (case h => (repeat (first | (with_reducible assumption) | (with_reducible apply Row.at; (simp; done)) | (with_reducible apply Row.alloc) | (with_reducible apply Row.drew) | (with_reducible apply Row.drewN) | (with_reducible apply Row.set) | ((with_reducible apply Row.other); (case hp => first | (simp; done) | (simp; omega) | omega))))); (case e => rfl))⟩
            case measure => first | (simp [intOf]; done) | (simp [intOf]; omega)
          · obtain rfl : j = 3 := by omega
            have HF := Lib.hid (show (allPts (l.take (k + 1))).foldl stepP ((ax, ay), (ax, ay)) = ((lx', ly'), (hx', hy')) by
              rw [HST.out, List.foldl_append, HN.out]; exact HFO.out)
            go_wp2
            go_roundw
            case rel => exact ⟨k + 1, _, _, _, _, by omega, by go_num, HF.out, by (repeat' (first | (with_reducible exact Up.refl _) | (with_reducible assumption) | (with_reducible refine Up.alloc ?_ _) | (with_reducible refine Up.drew ?_) | (with_reducible refine Up.drewN ?_ _) | (with_reducible refine Up.setCell ?_ ?_ _) | (with_reducible refine Up.call ?_ (by with_reducible assumption)) | go_size)), by (try simp); omega, (by apply Row.cast; (case h => (repeat (first | (with_reducible assumption) | (with_reducible apply Row.at; (simp; done)) | (with_reducible apply Row.alloc) | (with_reducible apply Row.drew) | (with_reducible apply Row.drewN) | (with_reducible apply Row.set) | ((with_reducible apply Row.other); (case hp => first | (simp; done) | (simp; omega) | omega))))); (case e => rfl)), (by apply Row.cast; (case h => (repeat (first | (with_reducible assumption) | (with_reducible apply Row.at; (simp; done)) | (with_reducible apply Row.alloc) | (with_reducible apply Row.drew) | (with_reducible apply Row.drewN) | (with_reducible apply Row.set) | ((with_reducible apply Row.other); (case hp => first | (simp; done) | (simp; omega) | omega))))); (case e => rfl))⟩
            case measure => first | (simp [intOf]; done) | (simp [intOf]; omega)
      · have HPT := Lib.hid hn
        clear hp hn
        go_wp2_with (go_at_call 29; ((with_reducible refine (points_calls 4 _).mono ?_); rintro E w1 ⟨rfl, rfl⟩; rw [HPT.out]))
        go_loopw [41] (fun i wr => ∃ (j : Nat) (lx' ly' hx' hy' : Int), j ≤ 0 ∧ i = .int .i64 j ∧ (([] : List Pt).take j).foldl stepP ((lx, ly), (hx, hy)) = ((lx', ly'), (hx', hy')) ∧ Up w wr ∧ wo.heap.size < wr.heap.size ∧ Row wr wo.heap.size #[.int .i64 4, .int .i64 x0, .int .i64 y0, .int .i64 x1, .int .i64 y1, .int .i64 x2, .int .i64 y2] ∧ Row wr w.heap.size #[.int .i64 lx', .int .i64 ly'] ∧ Row wr (w.heap.size + 1) #[.int .i64 hx', .int .i64 hy']) (fun i _ => 0 - (intOf i).toNat)
        case atStart => exact ⟨0, lx, ly, hx, hy, Nat.zero_le _, rfl, rfl, by (repeat' (first | (with_reducible exact Up.refl _) | (with_reducible assumption) | (with_reducible refine Up.alloc ?_ _) | (with_reducible refine Up.drew ?_) | (with_reducible refine Up.drewN ?_ _) | (with_reducible refine Up.setCell ?_ ?_ _) | (with_reducible refine Up.call ?_ (by with_reducible assumption)) | go_size)), by simp, (by apply Row.cast; (case h => (repeat (first | (with_reducible assumption) | (with_reducible apply Row.at; (simp; done)) | (with_reducible apply Row.alloc) | (with_reducible apply Row.drew) | (with_reducible apply Row.drewN) | (with_reducible apply Row.set) | ((with_reducible apply Row.other); (case hp => first | (simp; done) | (simp; omega) | omega))))); (case e => rfl)), (by apply Row.cast; (case h => (repeat (first | (with_reducible assumption) | (with_reducible apply Row.at; (simp; done)) | (with_reducible apply Row.alloc) | (with_reducible apply Row.drew) | (with_reducible apply Row.drewN) | (with_reducible apply Row.set) | ((with_reducible apply Row.other); (case hp => first | (simp; done) | (simp; omega) | omega))))); (case e => rfl)), (by apply Row.cast; (case h => (repeat (first | (with_reducible assumption) | (with_reducible apply Row.at; (simp; done)) | (with_reducible apply Row.alloc) | (with_reducible apply Row.drew) | (with_reducible apply Row.drewN) | (with_reducible apply Row.set) | ((with_reducible apply Row.other); (case hp => first | (simp; done) | (simp; omega) | omega))))); (case e => rfl))⟩
        case round =>
          obtain ⟨j, lx', ly', hx', hy', hj, rfl, hf, hup2, hsz2, rs, r2', r3'⟩ := hrel
          clear q20 q21 q30 q31 f20 f21 f30 f31 r2 r3
          have q20 : wr.cell? ⟨w.heap.size, 0, none⟩ = some (.int .i64 lx') := r2'.cell 0 rfl
          have q21 : wr.cell? ⟨w.heap.size, 1, none⟩ = some (.int .i64 ly') := r2'.cell 1 rfl
          have q30 : wr.cell? ⟨w.heap.size + 1, 0, none⟩ = some (.int .i64 hx') := r3'.cell 0 rfl
          have q31 : wr.cell? ⟨w.heap.size + 1, 1, none⟩ = some (.int .i64 hy') := r3'.cell 1 rfl
          have f20 := r2'.free 0
          have f21 := r2'.free 1
          have f30 := r3'.free 0
          have f31 := r3'.free 1
          have pm20 : w.heap.size < wr.heap.size := by omega
          have pm21 : w.heap.size < wr.heap.size + 1 := by omega
          have pm30 : w.heap.size + 1 < wr.heap.size := by omega
          have pm31 : w.heap.size + 1 < wr.heap.size + 1 := by omega
          have pmg0 : wo.heap.size < wr.heap.size := by omega
          have pmg1 : wo.heap.size < wr.heap.size + 1 := by omega
          have HFO := Lib.hid hf
          clear hf
          obtain rfl : j = 0 := by omega
          have HF := Lib.hid (show (allPts (l.take (k + 1))).foldl stepP ((ax, ay), (ax, ay)) = ((lx', ly'), (hx', hy')) by
            rw [HST.out, List.foldl_append, HN.out]; exact HFO.out)
          go_wp2
          go_roundw
          case rel => exact ⟨k + 1, _, _, _, _, by omega, by go_num, HF.out, by (repeat' (first | (with_reducible exact Up.refl _) | (with_reducible assumption) | (with_reducible refine Up.alloc ?_ _) | (with_reducible refine Up.drew ?_) | (with_reducible refine Up.drewN ?_ _) | (with_reducible refine Up.setCell ?_ ?_ _) | (with_reducible refine Up.call ?_ (by with_reducible assumption)) | go_size)), by (try simp); omega, (by apply Row.cast; (case h => (repeat (first | (with_reducible assumption) | (with_reducible apply Row.at; (simp; done)) | (with_reducible apply Row.alloc) | (with_reducible apply Row.drew) | (with_reducible apply Row.drewN) | (with_reducible apply Row.set) | ((with_reducible apply Row.other); (case hp => first | (simp; done) | (simp; omega) | omega))))); (case e => rfl)), (by apply Row.cast; (case h => (repeat (first | (with_reducible assumption) | (with_reducible apply Row.at; (simp; done)) | (with_reducible apply Row.alloc) | (with_reducible apply Row.drew) | (with_reducible apply Row.drewN) | (with_reducible apply Row.set) | ((with_reducible apply Row.other); (case hp => first | (simp; done) | (simp; omega) | omega))))); (case e => rfl))⟩
          case measure => first | (simp [intOf]; done) | (simp [intOf]; omega)
    · have HF := Lib.hid (show bounds l = ((lx, ly), (hx, hy)) by
        have := HN.out
        rw [List.take_of_length_le (by omega)] at this
        rw [HB.out, this])
      go_wp2
      go_region
      go_wp2
      (try simp only [Exit.inBlock, Exit.then])
      refine bodyPost_ret (results_box _ _ w.heap.size (w.heap.size + 1) lx ly hx hy _ (by apply Row.cast; (case h => (repeat (first | (with_reducible assumption) | (with_reducible apply Row.at; (simp; done)) | (with_reducible apply Row.alloc) | (with_reducible apply Row.drew) | (with_reducible apply Row.drewN) | (with_reducible apply Row.set) | ((with_reducible apply Row.other); (case hp => first | (simp; done) | (simp; omega) | omega))))); (case e => rfl)) (by apply Row.cast; (case h => (repeat (first | (with_reducible assumption) | (with_reducible apply Row.at; (simp; done)) | (with_reducible apply Row.alloc) | (with_reducible apply Row.drew) | (with_reducible apply Row.drewN) | (with_reducible apply Row.set) | ((with_reducible apply Row.other); (case hp => first | (simp; done) | (simp; omega) | omega))))); (case e => rfl)) rfl rfl rfl) rfl ?_
      exact ⟨by rw [HF.out], by (repeat' (first | (with_reducible exact Up.refl _) | (with_reducible assumption) | (with_reducible refine Up.alloc ?_ _) | (with_reducible refine Up.drew ?_) | (with_reducible refine Up.drewN ?_ _) | (with_reducible refine Up.setCell ?_ ?_ _) | (with_reducible refine Up.call ?_ (by with_reducible assumption)) | go_size))⟩

end Go.Proofs.Ytgfkfhkgidmepaa.Path
