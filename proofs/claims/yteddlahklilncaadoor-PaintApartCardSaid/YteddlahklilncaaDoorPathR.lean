/- What the reference says of segments: which are sound. -/
import Derived.Deep.RegionHeld
import Derived.Test.YteddlahklilncaaDoorPathW8
import Derived.Test.YteddlahklilncaaDoorRfix
import Derived.LoopN
namespace Go.Proofs.YteddlahklilncaaDoor.Path
open Go.ChangeShapes Go.WideShapes Go.ChangeAt Go.RowKit
open Go.Proofs.YteddlahklilncaaDoor.FixM (fits)
open Go.Proofs.YteddlahklilncaaDoor.PathM
set_option linter.unusedVariables false
set_option linter.unusedSimpArgs false

theorem fitsPoint_calls (x y : Int) (w : World) :
    Calls Tryd.prog 39 #[.agg #[.int .i64 x, .int .i64 y]] w fun e w' => e = .returned (.bool (fitsP (x, y))) ∧ w' = w.alloc (.cells #[.int .i64 x, .int .i64 y] 65) := by
  by_cases h1 : fits x = true
  · have H := Lib.hid (show fitsP (x, y) = fits y by simp [fitsP, h1])
    go_enter Tryd.func39, Tryd.ntmps39
    go_wp2_with (first
      | (go_at_call 25; ((with_reducible refine (Rfix.fits_calls _ _).mono ?_); rintro E w1 ⟨rfl, rfl⟩; (try rw [h1]))))
    go_ret
    exact ⟨by rw [H.out]; rfl, rfl⟩
  · have h1 : fits x = false := by simpa using h1
    have H := Lib.hid (show fitsP (x, y) = false by simp [fitsP, h1])
    go_enter Tryd.func39, Tryd.ntmps39
    go_wp2_with (first
      | (go_at_call 25; ((with_reducible refine (Rfix.fits_calls _ _).mono ?_); rintro E w1 ⟨rfl, rfl⟩; (try rw [h1]))))
    go_ret
    exact ⟨by rw [H.out]; rfl, rfl⟩

set_option maxRecDepth 8000 in
set_option maxHeartbeats 4000000 in
theorem soundPath_calls (v : Value) (l : List Seg) (w : World) (h : SegV w v l) :
    Calls Tryd.prog 23 #[v] w fun e w' => e = .returned (.bool (sound l)) ∧ Up w w' := by
  rcases h with ⟨a, cap, rfl, rfl⟩ | ⟨b, o, cap, rfl, h0, hb, hs, hl⟩
  · go_enter Tryd.func23, Tryd.ntmps23
    go_wp2
    refine wp_loop_rounds 1 ?_
    repeat any_goals (rw [rounds_succ]; go_wp2)
    go_ret
    exact ⟨rfl, by (repeat' (first | (with_reducible exact Up.refl _) | (with_reducible assumption) | (with_reducible refine Up.alloc ?_ _) | (with_reducible refine Up.drew ?_) | (with_reducible refine Up.drewN ?_ _) | (with_reducible refine Up.setCell ?_ ?_ _) | (with_reducible refine Up.call ?_ (by with_reducible assumption)) | go_size))⟩
  by_cases h4 : 4096 < l.length
  · have H := Lib.hid (sound_long h4)
    clear hs
    go_enter Tryd.func23, Tryd.ntmps23
    go_wp2
    go_ret
    exact ⟨by rw [H.out]; rfl, by (repeat' (first | (with_reducible exact Up.refl _) | (with_reducible assumption) | (with_reducible refine Up.alloc ?_ _) | (with_reducible refine Up.drew ?_) | (with_reducible refine Up.drewN ?_ _) | (with_reducible refine Up.setCell ?_ ?_ _) | (with_reducible refine Up.call ?_ (by with_reducible assumption)) | go_size))⟩
  have HS := Lib.hid hs
  clear hs
  go_enter Tryd.func23, Tryd.ntmps23
  go_wp2
  go_loopw [3] (fun i wr => ∃ k : Nat, k ≤ l.length ∧ i = .int .i64 k ∧ soundFrom 0 (l.take k) = true ∧ Up w wr) (fun i _ => l.length - (intOf i).toNat)
  case atStart => exact ⟨0, Nat.zero_le _, rfl, rfl, Up.refl _⟩
  case round =>
    obtain ⟨k, hk, rfl, hno, hup⟩ := hrel
    by_cases hlt : k < l.length
    · obtain ⟨kk, x0, y0, x1, y1, x2, y2, hg⟩ : ∃ kk x0 y0 x1 y1 x2 y2, l[k]? = some ⟨kk, (x0, y0), (x1, y1), (x2, y2)⟩ := ⟨_, _, _, _, _, _, _, List.getElem?_eq_getElem hlt⟩
      obtain ⟨L, hL⟩ : ∃ L, lastK (l.take k) = L := ⟨_, rfl⟩
      obtain ⟨c0, c1, c2, c3, c4, c5, c6⟩ := HS.out.seven k _ _ _ _ _ _ _ hg
      replace c0 := (hup.cells.1 b _ hb).trans c0
      replace c1 := (hup.cells.1 b _ hb).trans c1
      replace c2 := (hup.cells.1 b _ hb).trans c2
      replace c3 := (hup.cells.1 b _ hb).trans c3
      replace c4 := (hup.cells.1 b _ hb).trans c4
      replace c5 := (hup.cells.1 b _ hb).trans c5
      replace c6 := (hup.cells.1 b _ hb).trans c6
      have hz := hup.size
      have hbr : b < wr.heap.size := Nat.lt_of_lt_of_le hb hz
      have HB := Lib.hid (fun h1 => sound_stop hg (by rw [hL]; exact h1) : soundSeg L ⟨kk, (x0, y0), (x1, y1), (x2, y2)⟩ = false → sound l = false)
      have HT := Lib.hid (fun h1 => sound_step hno hg (by rw [hL]; exact h1) : soundSeg L ⟨kk, (x0, y0), (x1, y1), (x2, y2)⟩ = true → soundFrom 0 (l.take (k + 1)) = true)
      have HL := Lib.hid hL
      have HG := Lib.hid hg
      clear hL hno hg
      by_cases hp : 0 ≤ points kk
      · have hcase := Lib.hid (points_cases hp)
        clear hp
        obtain ⟨f0, hf0⟩ : ∃ f, fitsP (x0, y0) = f := ⟨_, rfl⟩
        have HG0 := Lib.hid hf0
        clear hf0
        obtain ⟨f1, hf1⟩ : ∃ f, fitsP (x1, y1) = f := ⟨_, rfl⟩
        have HG1 := Lib.hid hf1
        clear hf1
        obtain ⟨f2, hf2⟩ : ∃ f, fitsP (x2, y2) = f := ⟨_, rfl⟩
        have HG2 := Lib.hid hf2
        clear hf2
        rcases hcase.out with ⟨rfl, hn⟩ | ⟨rfl, hn⟩ | ⟨rfl, hn⟩ | ⟨rfl, hn⟩
        · clear hcase
          have HN := Lib.hid hn
          clear hn
          cases f0
          · skip
            have HQ := Lib.hid (HB.out (by simp [soundSeg, Seg.pts, points, nz, HG0.out]))
            clear HT HB
            go_wp2_with (go_at_call 39; ((with_reducible refine (fitsPoint_calls _ _ _).mono ?_); rintro E w1 ⟨rfl, rfl⟩; (first | rw [HG0.out] | rw [HG1.out] | rw [HG2.out])))
            refine wp_loop_rounds 4 ?_
            repeat any_goals (rw [rounds_succ]; go_wp2_with (go_at_call 39; ((with_reducible refine (fitsPoint_calls _ _ _).mono ?_); rintro E w1 ⟨rfl, rfl⟩; (first | rw [HG0.out] | rw [HG1.out] | rw [HG2.out]))))
            go_ret
            exact ⟨by rw [HQ.out]; rfl, by (repeat' (first | (with_reducible exact Up.refl _) | (with_reducible assumption) | (with_reducible refine Up.alloc ?_ _) | (with_reducible refine Up.drew ?_) | (with_reducible refine Up.drewN ?_ _) | (with_reducible refine Up.setCell ?_ ?_ _) | (with_reducible refine Up.call ?_ (by with_reducible assumption)) | go_size))⟩
          · skip
            cases f1
            · skip
              have HQ := Lib.hid (HB.out (by simp [soundSeg, Seg.pts, points, nz, HG1.out]))
              clear HT HB
              go_wp2_with (go_at_call 39; ((with_reducible refine (fitsPoint_calls _ _ _).mono ?_); rintro E w1 ⟨rfl, rfl⟩; (first | rw [HG0.out] | rw [HG1.out] | rw [HG2.out])))
              refine wp_loop_rounds 4 ?_
              repeat any_goals (rw [rounds_succ]; go_wp2_with (go_at_call 39; ((with_reducible refine (fitsPoint_calls _ _ _).mono ?_); rintro E w1 ⟨rfl, rfl⟩; (first | rw [HG0.out] | rw [HG1.out] | rw [HG2.out]))))
              go_ret
              exact ⟨by rw [HQ.out]; rfl, by (repeat' (first | (with_reducible exact Up.refl _) | (with_reducible assumption) | (with_reducible refine Up.alloc ?_ _) | (with_reducible refine Up.drew ?_) | (with_reducible refine Up.drewN ?_ _) | (with_reducible refine Up.setCell ?_ ?_ _) | (with_reducible refine Up.call ?_ (by with_reducible assumption)) | go_size))⟩
            · skip
              by_cases hx1 : x1 = 0
              rotate_left
              · have dx1 : (x1 != 0) = true := by simpa using hx1
                have Hx1 := Lib.hid hx1
                clear hx1
                have HQ := Lib.hid (HB.out (by simp [soundSeg, Seg.pts, points, nz, Hx1.out]))
                clear HT HB
                go_wp2_with (go_at_call 39; ((with_reducible refine (fitsPoint_calls _ _ _).mono ?_); rintro E w1 ⟨rfl, rfl⟩; (first | rw [HG0.out] | rw [HG1.out] | rw [HG2.out])))
                refine wp_loop_rounds 4 ?_
                repeat any_goals (rw [rounds_succ]; go_wp2_with (go_at_call 39; ((with_reducible refine (fitsPoint_calls _ _ _).mono ?_); rintro E w1 ⟨rfl, rfl⟩; (first | rw [HG0.out] | rw [HG1.out] | rw [HG2.out]))))
                go_ret
                exact ⟨by rw [HQ.out]; rfl, by (repeat' (first | (with_reducible exact Up.refl _) | (with_reducible assumption) | (with_reducible refine Up.alloc ?_ _) | (with_reducible refine Up.drew ?_) | (with_reducible refine Up.drewN ?_ _) | (with_reducible refine Up.setCell ?_ ?_ _) | (with_reducible refine Up.call ?_ (by with_reducible assumption)) | go_size))⟩
              subst hx1
              by_cases hy1 : y1 = 0
              rotate_left
              · have dy1 : (y1 != 0) = true := by simpa using hy1
                have Hy1 := Lib.hid hy1
                clear hy1
                have HQ := Lib.hid (HB.out (by simp [soundSeg, Seg.pts, points, nz, Hy1.out]))
                clear HT HB
                go_wp2_with (go_at_call 39; ((with_reducible refine (fitsPoint_calls _ _ _).mono ?_); rintro E w1 ⟨rfl, rfl⟩; (first | rw [HG0.out] | rw [HG1.out] | rw [HG2.out])))
                refine wp_loop_rounds 4 ?_
                repeat any_goals (rw [rounds_succ]; go_wp2_with (go_at_call 39; ((with_reducible refine (fitsPoint_calls _ _ _).mono ?_); rintro E w1 ⟨rfl, rfl⟩; (first | rw [HG0.out] | rw [HG1.out] | rw [HG2.out]))))
                go_ret
                exact ⟨by rw [HQ.out]; rfl, by (repeat' (first | (with_reducible exact Up.refl _) | (with_reducible assumption) | (with_reducible refine Up.alloc ?_ _) | (with_reducible refine Up.drew ?_) | (with_reducible refine Up.drewN ?_ _) | (with_reducible refine Up.setCell ?_ ?_ _) | (with_reducible refine Up.call ?_ (by with_reducible assumption)) | go_size))⟩
              subst hy1
              cases f2
              · skip
                have HQ := Lib.hid (HB.out (by simp [soundSeg, Seg.pts, points, nz, HG2.out]))
                clear HT HB
                go_wp2_with (go_at_call 39; ((with_reducible refine (fitsPoint_calls _ _ _).mono ?_); rintro E w1 ⟨rfl, rfl⟩; (first | rw [HG0.out] | rw [HG1.out] | rw [HG2.out])))
                refine wp_loop_rounds 4 ?_
                repeat any_goals (rw [rounds_succ]; go_wp2_with (go_at_call 39; ((with_reducible refine (fitsPoint_calls _ _ _).mono ?_); rintro E w1 ⟨rfl, rfl⟩; (first | rw [HG0.out] | rw [HG1.out] | rw [HG2.out]))))
                go_ret
                exact ⟨by rw [HQ.out]; rfl, by (repeat' (first | (with_reducible exact Up.refl _) | (with_reducible assumption) | (with_reducible refine Up.alloc ?_ _) | (with_reducible refine Up.drew ?_) | (with_reducible refine Up.drewN ?_ _) | (with_reducible refine Up.setCell ?_ ?_ _) | (with_reducible refine Up.call ?_ (by with_reducible assumption)) | go_size))⟩
              · skip
                by_cases hx2 : x2 = 0
                rotate_left
                · have dx2 : (x2 != 0) = true := by simpa using hx2
                  have Hx2 := Lib.hid hx2
                  clear hx2
                  have HQ := Lib.hid (HB.out (by simp [soundSeg, Seg.pts, points, nz, Hx2.out]))
                  clear HT HB
                  go_wp2_with (go_at_call 39; ((with_reducible refine (fitsPoint_calls _ _ _).mono ?_); rintro E w1 ⟨rfl, rfl⟩; (first | rw [HG0.out] | rw [HG1.out] | rw [HG2.out])))
                  refine wp_loop_rounds 4 ?_
                  repeat any_goals (rw [rounds_succ]; go_wp2_with (go_at_call 39; ((with_reducible refine (fitsPoint_calls _ _ _).mono ?_); rintro E w1 ⟨rfl, rfl⟩; (first | rw [HG0.out] | rw [HG1.out] | rw [HG2.out]))))
                  go_ret
                  exact ⟨by rw [HQ.out]; rfl, by (repeat' (first | (with_reducible exact Up.refl _) | (with_reducible assumption) | (with_reducible refine Up.alloc ?_ _) | (with_reducible refine Up.drew ?_) | (with_reducible refine Up.drewN ?_ _) | (with_reducible refine Up.setCell ?_ ?_ _) | (with_reducible refine Up.call ?_ (by with_reducible assumption)) | go_size))⟩
                subst hx2
                by_cases hy2 : y2 = 0
                rotate_left
                · have dy2 : (y2 != 0) = true := by simpa using hy2
                  have Hy2 := Lib.hid hy2
                  clear hy2
                  have HQ := Lib.hid (HB.out (by simp [soundSeg, Seg.pts, points, nz, Hy2.out]))
                  clear HT HB
                  go_wp2_with (go_at_call 39; ((with_reducible refine (fitsPoint_calls _ _ _).mono ?_); rintro E w1 ⟨rfl, rfl⟩; (first | rw [HG0.out] | rw [HG1.out] | rw [HG2.out])))
                  refine wp_loop_rounds 4 ?_
                  repeat any_goals (rw [rounds_succ]; go_wp2_with (go_at_call 39; ((with_reducible refine (fitsPoint_calls _ _ _).mono ?_); rintro E w1 ⟨rfl, rfl⟩; (first | rw [HG0.out] | rw [HG1.out] | rw [HG2.out]))))
                  go_ret
                  exact ⟨by rw [HQ.out]; rfl, by (repeat' (first | (with_reducible exact Up.refl _) | (with_reducible assumption) | (with_reducible refine Up.alloc ?_ _) | (with_reducible refine Up.drew ?_) | (with_reducible refine Up.drewN ?_ _) | (with_reducible refine Up.setCell ?_ ?_ _) | (with_reducible refine Up.call ?_ (by with_reducible assumption)) | go_size))⟩
                subst hy2
                have HQ0 := Lib.hid (by simp [soundSeg, Seg.pts, points, nz, HG0.out, HG1.out, HG2.out] : soundSeg L ⟨1, (x0, y0), (0, 0), (0, 0)⟩ = follows 1 L)
                cases k with
                | zero =>
                  obtain rfl : 0 = L := HL.out
                  rw [Nat.zero_mul, Nat.add_zero] at c0 c1 c2 c3 c4 c5 c6
                  have HQ := Lib.hid (HT.out (by rw [HQ0.out]; rfl))
                  clear HT HB
                  go_wp2_with (go_at_call 39; ((with_reducible refine (fitsPoint_calls _ _ _).mono ?_); rintro E w1 ⟨rfl, rfl⟩; (first | rw [HG0.out] | rw [HG1.out] | rw [HG2.out])))
                  refine wp_loop_rounds 4 ?_
                  repeat any_goals (rw [rounds_succ]; go_wp2_with (go_at_call 39; ((with_reducible refine (fitsPoint_calls _ _ _).mono ?_); rintro E w1 ⟨rfl, rfl⟩; (first | rw [HG0.out] | rw [HG1.out] | rw [HG2.out]))))
                  go_roundw
                  case rel => exact ⟨0 + 1, by omega, by go_num, HQ.out, by (repeat' (first | (with_reducible exact Up.refl _) | (with_reducible assumption) | (with_reducible refine Up.alloc ?_ _) | (with_reducible refine Up.drew ?_) | (with_reducible refine Up.drewN ?_ _) | (with_reducible refine Up.setCell ?_ ?_ _) | (with_reducible refine Up.call ?_ (by with_reducible assumption)) | go_size))⟩
                  case measure => simp [intOf]; omega
                | succ k =>
                  obtain ⟨s, hs⟩ : ∃ s, l[k]? = some s := ⟨_, List.getElem?_eq_getElem (by omega)⟩
                  obtain ⟨ks, ps, qs, rs⟩ := s
                  have hc := (hup.cells.1 b _ hb).trans (HS.out k _ 0 _ hs rfl)
                  rw [Nat.add_zero] at hc
                  dsimp only at hc
                  obtain rfl : ks = L := (lastK_step hs).symm.trans HL.out
                  have hcF : ((((wr.alloc (.cells #[.int .i64 1, .int .i64 x0, .int .i64 y0, .int .i64 0, .int .i64 0, .int .i64 0, .int .i64 0] 68)).alloc (.cells #[.int .i64 x0, .int .i64 y0] 65)).alloc (.cells #[.int .i64 0, .int .i64 0] 65)).alloc (.cells #[.int .i64 0, .int .i64 0] 65)).cell? ⟨b, o + k * 7, none⟩ = some (.int .i64 ks) := (World.cell?_alloc_lt _ _ _ (by simp; omega)).trans ((World.cell?_alloc_lt _ _ _ (by simp; omega)).trans ((World.cell?_alloc_lt _ _ _ (by simp; omega)).trans ((World.cell?_alloc_lt _ _ _ hbr).trans hc)))
                  clear hs
                  by_cases h1 : ks = 1
                  · subst h1
                    have HQ := Lib.hid (HB.out (by rw [HQ0.out]; rfl))
                    clear HT HB
                    go_wp2_with (go_at_call 39; ((with_reducible refine (fitsPoint_calls _ _ _).mono ?_); rintro E w1 ⟨rfl, rfl⟩; (first | rw [HG0.out] | rw [HG1.out] | rw [HG2.out])))
                    refine wp_loop_rounds 4 ?_
                    repeat any_goals (rw [rounds_succ]; go_wp2_with (go_at_call 39; ((with_reducible refine (fitsPoint_calls _ _ _).mono ?_); rintro E w1 ⟨rfl, rfl⟩; (first | rw [HG0.out] | rw [HG1.out] | rw [HG2.out]))))
                    go_ret
                    exact ⟨by rw [HQ.out]; rfl, by (repeat' (first | (with_reducible exact Up.refl _) | (with_reducible assumption) | (with_reducible refine Up.alloc ?_ _) | (with_reducible refine Up.drew ?_) | (with_reducible refine Up.drewN ?_ _) | (with_reducible refine Up.setCell ?_ ?_ _) | (with_reducible refine Up.call ?_ (by with_reducible assumption)) | go_size))⟩
                  · have e1 : (ks == 1) = false := by simpa using h1
                    have H1 := Lib.hid h1
                    clear h1
                    have HQ := Lib.hid (HT.out (by rw [HQ0.out]; simp [follows, H1.out]))
                    clear HT HB
                    go_wp2_with (go_at_call 39; ((with_reducible refine (fitsPoint_calls _ _ _).mono ?_); rintro E w1 ⟨rfl, rfl⟩; (first | rw [HG0.out] | rw [HG1.out] | rw [HG2.out])))
                    refine wp_loop_rounds 4 ?_
                    repeat any_goals (rw [rounds_succ]; go_wp2_with (go_at_call 39; ((with_reducible refine (fitsPoint_calls _ _ _).mono ?_); rintro E w1 ⟨rfl, rfl⟩; (first | rw [HG0.out] | rw [HG1.out] | rw [HG2.out]))))
                    go_roundw
                    case rel => exact ⟨k + 1 + 1, by omega, by go_num, HQ.out, by (repeat' (first | (with_reducible exact Up.refl _) | (with_reducible assumption) | (with_reducible refine Up.alloc ?_ _) | (with_reducible refine Up.drew ?_) | (with_reducible refine Up.drewN ?_ _) | (with_reducible refine Up.setCell ?_ ?_ _) | (with_reducible refine Up.call ?_ (by with_reducible assumption)) | go_size))⟩
                    case measure => simp [intOf]; omega
        · clear hcase
          have HN := Lib.hid hn
          clear hn
          cases f0
          · skip
            have HQ := Lib.hid (HB.out (by simp [soundSeg, Seg.pts, points, nz, HG0.out]))
            clear HT HB
            go_wp2_with (go_at_call 39; ((with_reducible refine (fitsPoint_calls _ _ _).mono ?_); rintro E w1 ⟨rfl, rfl⟩; (first | rw [HG0.out] | rw [HG1.out] | rw [HG2.out])))
            refine wp_loop_rounds 4 ?_
            repeat any_goals (rw [rounds_succ]; go_wp2_with (go_at_call 39; ((with_reducible refine (fitsPoint_calls _ _ _).mono ?_); rintro E w1 ⟨rfl, rfl⟩; (first | rw [HG0.out] | rw [HG1.out] | rw [HG2.out]))))
            go_ret
            exact ⟨by rw [HQ.out]; rfl, by (repeat' (first | (with_reducible exact Up.refl _) | (with_reducible assumption) | (with_reducible refine Up.alloc ?_ _) | (with_reducible refine Up.drew ?_) | (with_reducible refine Up.drewN ?_ _) | (with_reducible refine Up.setCell ?_ ?_ _) | (with_reducible refine Up.call ?_ (by with_reducible assumption)) | go_size))⟩
          · skip
            cases f1
            · skip
              have HQ := Lib.hid (HB.out (by simp [soundSeg, Seg.pts, points, nz, HG1.out]))
              clear HT HB
              go_wp2_with (go_at_call 39; ((with_reducible refine (fitsPoint_calls _ _ _).mono ?_); rintro E w1 ⟨rfl, rfl⟩; (first | rw [HG0.out] | rw [HG1.out] | rw [HG2.out])))
              refine wp_loop_rounds 4 ?_
              repeat any_goals (rw [rounds_succ]; go_wp2_with (go_at_call 39; ((with_reducible refine (fitsPoint_calls _ _ _).mono ?_); rintro E w1 ⟨rfl, rfl⟩; (first | rw [HG0.out] | rw [HG1.out] | rw [HG2.out]))))
              go_ret
              exact ⟨by rw [HQ.out]; rfl, by (repeat' (first | (with_reducible exact Up.refl _) | (with_reducible assumption) | (with_reducible refine Up.alloc ?_ _) | (with_reducible refine Up.drew ?_) | (with_reducible refine Up.drewN ?_ _) | (with_reducible refine Up.setCell ?_ ?_ _) | (with_reducible refine Up.call ?_ (by with_reducible assumption)) | go_size))⟩
            · skip
              by_cases hx1 : x1 = 0
              rotate_left
              · have dx1 : (x1 != 0) = true := by simpa using hx1
                have Hx1 := Lib.hid hx1
                clear hx1
                have HQ := Lib.hid (HB.out (by simp [soundSeg, Seg.pts, points, nz, Hx1.out]))
                clear HT HB
                go_wp2_with (go_at_call 39; ((with_reducible refine (fitsPoint_calls _ _ _).mono ?_); rintro E w1 ⟨rfl, rfl⟩; (first | rw [HG0.out] | rw [HG1.out] | rw [HG2.out])))
                refine wp_loop_rounds 4 ?_
                repeat any_goals (rw [rounds_succ]; go_wp2_with (go_at_call 39; ((with_reducible refine (fitsPoint_calls _ _ _).mono ?_); rintro E w1 ⟨rfl, rfl⟩; (first | rw [HG0.out] | rw [HG1.out] | rw [HG2.out]))))
                go_ret
                exact ⟨by rw [HQ.out]; rfl, by (repeat' (first | (with_reducible exact Up.refl _) | (with_reducible assumption) | (with_reducible refine Up.alloc ?_ _) | (with_reducible refine Up.drew ?_) | (with_reducible refine Up.drewN ?_ _) | (with_reducible refine Up.setCell ?_ ?_ _) | (with_reducible refine Up.call ?_ (by with_reducible assumption)) | go_size))⟩
              subst hx1
              by_cases hy1 : y1 = 0
              rotate_left
              · have dy1 : (y1 != 0) = true := by simpa using hy1
                have Hy1 := Lib.hid hy1
                clear hy1
                have HQ := Lib.hid (HB.out (by simp [soundSeg, Seg.pts, points, nz, Hy1.out]))
                clear HT HB
                go_wp2_with (go_at_call 39; ((with_reducible refine (fitsPoint_calls _ _ _).mono ?_); rintro E w1 ⟨rfl, rfl⟩; (first | rw [HG0.out] | rw [HG1.out] | rw [HG2.out])))
                refine wp_loop_rounds 4 ?_
                repeat any_goals (rw [rounds_succ]; go_wp2_with (go_at_call 39; ((with_reducible refine (fitsPoint_calls _ _ _).mono ?_); rintro E w1 ⟨rfl, rfl⟩; (first | rw [HG0.out] | rw [HG1.out] | rw [HG2.out]))))
                go_ret
                exact ⟨by rw [HQ.out]; rfl, by (repeat' (first | (with_reducible exact Up.refl _) | (with_reducible assumption) | (with_reducible refine Up.alloc ?_ _) | (with_reducible refine Up.drew ?_) | (with_reducible refine Up.drewN ?_ _) | (with_reducible refine Up.setCell ?_ ?_ _) | (with_reducible refine Up.call ?_ (by with_reducible assumption)) | go_size))⟩
              subst hy1
              cases f2
              · skip
                have HQ := Lib.hid (HB.out (by simp [soundSeg, Seg.pts, points, nz, HG2.out]))
                clear HT HB
                go_wp2_with (go_at_call 39; ((with_reducible refine (fitsPoint_calls _ _ _).mono ?_); rintro E w1 ⟨rfl, rfl⟩; (first | rw [HG0.out] | rw [HG1.out] | rw [HG2.out])))
                refine wp_loop_rounds 4 ?_
                repeat any_goals (rw [rounds_succ]; go_wp2_with (go_at_call 39; ((with_reducible refine (fitsPoint_calls _ _ _).mono ?_); rintro E w1 ⟨rfl, rfl⟩; (first | rw [HG0.out] | rw [HG1.out] | rw [HG2.out]))))
                go_ret
                exact ⟨by rw [HQ.out]; rfl, by (repeat' (first | (with_reducible exact Up.refl _) | (with_reducible assumption) | (with_reducible refine Up.alloc ?_ _) | (with_reducible refine Up.drew ?_) | (with_reducible refine Up.drewN ?_ _) | (with_reducible refine Up.setCell ?_ ?_ _) | (with_reducible refine Up.call ?_ (by with_reducible assumption)) | go_size))⟩
              · skip
                by_cases hx2 : x2 = 0
                rotate_left
                · have dx2 : (x2 != 0) = true := by simpa using hx2
                  have Hx2 := Lib.hid hx2
                  clear hx2
                  have HQ := Lib.hid (HB.out (by simp [soundSeg, Seg.pts, points, nz, Hx2.out]))
                  clear HT HB
                  go_wp2_with (go_at_call 39; ((with_reducible refine (fitsPoint_calls _ _ _).mono ?_); rintro E w1 ⟨rfl, rfl⟩; (first | rw [HG0.out] | rw [HG1.out] | rw [HG2.out])))
                  refine wp_loop_rounds 4 ?_
                  repeat any_goals (rw [rounds_succ]; go_wp2_with (go_at_call 39; ((with_reducible refine (fitsPoint_calls _ _ _).mono ?_); rintro E w1 ⟨rfl, rfl⟩; (first | rw [HG0.out] | rw [HG1.out] | rw [HG2.out]))))
                  go_ret
                  exact ⟨by rw [HQ.out]; rfl, by (repeat' (first | (with_reducible exact Up.refl _) | (with_reducible assumption) | (with_reducible refine Up.alloc ?_ _) | (with_reducible refine Up.drew ?_) | (with_reducible refine Up.drewN ?_ _) | (with_reducible refine Up.setCell ?_ ?_ _) | (with_reducible refine Up.call ?_ (by with_reducible assumption)) | go_size))⟩
                subst hx2
                by_cases hy2 : y2 = 0
                rotate_left
                · have dy2 : (y2 != 0) = true := by simpa using hy2
                  have Hy2 := Lib.hid hy2
                  clear hy2
                  have HQ := Lib.hid (HB.out (by simp [soundSeg, Seg.pts, points, nz, Hy2.out]))
                  clear HT HB
                  go_wp2_with (go_at_call 39; ((with_reducible refine (fitsPoint_calls _ _ _).mono ?_); rintro E w1 ⟨rfl, rfl⟩; (first | rw [HG0.out] | rw [HG1.out] | rw [HG2.out])))
                  refine wp_loop_rounds 4 ?_
                  repeat any_goals (rw [rounds_succ]; go_wp2_with (go_at_call 39; ((with_reducible refine (fitsPoint_calls _ _ _).mono ?_); rintro E w1 ⟨rfl, rfl⟩; (first | rw [HG0.out] | rw [HG1.out] | rw [HG2.out]))))
                  go_ret
                  exact ⟨by rw [HQ.out]; rfl, by (repeat' (first | (with_reducible exact Up.refl _) | (with_reducible assumption) | (with_reducible refine Up.alloc ?_ _) | (with_reducible refine Up.drew ?_) | (with_reducible refine Up.drewN ?_ _) | (with_reducible refine Up.setCell ?_ ?_ _) | (with_reducible refine Up.call ?_ (by with_reducible assumption)) | go_size))⟩
                subst hy2
                have HQ0 := Lib.hid (by simp [soundSeg, Seg.pts, points, nz, HG0.out, HG1.out, HG2.out] : soundSeg L ⟨2, (x0, y0), (0, 0), (0, 0)⟩ = follows 2 L)
                cases k with
                | zero =>
                  obtain rfl : 0 = L := HL.out
                  rw [Nat.zero_mul, Nat.add_zero] at c0 c1 c2 c3 c4 c5 c6
                  have HQ := Lib.hid (HB.out (by rw [HQ0.out]; rfl))
                  clear HT HB
                  go_wp2_with (go_at_call 39; ((with_reducible refine (fitsPoint_calls _ _ _).mono ?_); rintro E w1 ⟨rfl, rfl⟩; (first | rw [HG0.out] | rw [HG1.out] | rw [HG2.out])))
                  refine wp_loop_rounds 4 ?_
                  repeat any_goals (rw [rounds_succ]; go_wp2_with (go_at_call 39; ((with_reducible refine (fitsPoint_calls _ _ _).mono ?_); rintro E w1 ⟨rfl, rfl⟩; (first | rw [HG0.out] | rw [HG1.out] | rw [HG2.out]))))
                  go_ret
                  exact ⟨by rw [HQ.out]; rfl, by (repeat' (first | (with_reducible exact Up.refl _) | (with_reducible assumption) | (with_reducible refine Up.alloc ?_ _) | (with_reducible refine Up.drew ?_) | (with_reducible refine Up.drewN ?_ _) | (with_reducible refine Up.setCell ?_ ?_ _) | (with_reducible refine Up.call ?_ (by with_reducible assumption)) | go_size))⟩
                | succ k =>
                  obtain ⟨s, hs⟩ : ∃ s, l[k]? = some s := ⟨_, List.getElem?_eq_getElem (by omega)⟩
                  obtain ⟨ks, ps, qs, rs⟩ := s
                  have hc := (hup.cells.1 b _ hb).trans (HS.out k _ 0 _ hs rfl)
                  rw [Nat.add_zero] at hc
                  dsimp only at hc
                  obtain rfl : ks = L := (lastK_step hs).symm.trans HL.out
                  have hcF : ((((wr.alloc (.cells #[.int .i64 2, .int .i64 x0, .int .i64 y0, .int .i64 0, .int .i64 0, .int .i64 0, .int .i64 0] 68)).alloc (.cells #[.int .i64 x0, .int .i64 y0] 65)).alloc (.cells #[.int .i64 0, .int .i64 0] 65)).alloc (.cells #[.int .i64 0, .int .i64 0] 65)).cell? ⟨b, o + k * 7, none⟩ = some (.int .i64 ks) := (World.cell?_alloc_lt _ _ _ (by simp; omega)).trans ((World.cell?_alloc_lt _ _ _ (by simp; omega)).trans ((World.cell?_alloc_lt _ _ _ (by simp; omega)).trans ((World.cell?_alloc_lt _ _ _ hbr).trans hc)))
                  clear hs
                  by_cases h1 : ks = 0
                  · subst h1
                    have HQ := Lib.hid (HB.out (by rw [HQ0.out]; rfl))
                    clear HT HB
                    go_wp2_with (go_at_call 39; ((with_reducible refine (fitsPoint_calls _ _ _).mono ?_); rintro E w1 ⟨rfl, rfl⟩; (first | rw [HG0.out] | rw [HG1.out] | rw [HG2.out])))
                    refine wp_loop_rounds 4 ?_
                    repeat any_goals (rw [rounds_succ]; go_wp2_with (go_at_call 39; ((with_reducible refine (fitsPoint_calls _ _ _).mono ?_); rintro E w1 ⟨rfl, rfl⟩; (first | rw [HG0.out] | rw [HG1.out] | rw [HG2.out]))))
                    go_ret
                    exact ⟨by rw [HQ.out]; rfl, by (repeat' (first | (with_reducible exact Up.refl _) | (with_reducible assumption) | (with_reducible refine Up.alloc ?_ _) | (with_reducible refine Up.drew ?_) | (with_reducible refine Up.drewN ?_ _) | (with_reducible refine Up.setCell ?_ ?_ _) | (with_reducible refine Up.call ?_ (by with_reducible assumption)) | go_size))⟩
                  · have e1 : (ks == 0) = false := by simpa using h1
                    have H1 := Lib.hid h1
                    clear h1
                    by_cases h4 : ks = 4
                    · subst h4
                      have HQ := Lib.hid (HB.out (by rw [HQ0.out]; rfl))
                      clear HT HB
                      go_wp2_with (go_at_call 39; ((with_reducible refine (fitsPoint_calls _ _ _).mono ?_); rintro E w1 ⟨rfl, rfl⟩; (first | rw [HG0.out] | rw [HG1.out] | rw [HG2.out])))
                      refine wp_loop_rounds 4 ?_
                      repeat any_goals (rw [rounds_succ]; go_wp2_with (go_at_call 39; ((with_reducible refine (fitsPoint_calls _ _ _).mono ?_); rintro E w1 ⟨rfl, rfl⟩; (first | rw [HG0.out] | rw [HG1.out] | rw [HG2.out]))))
                      go_ret
                      exact ⟨by rw [HQ.out]; rfl, by (repeat' (first | (with_reducible exact Up.refl _) | (with_reducible assumption) | (with_reducible refine Up.alloc ?_ _) | (with_reducible refine Up.drew ?_) | (with_reducible refine Up.drewN ?_ _) | (with_reducible refine Up.setCell ?_ ?_ _) | (with_reducible refine Up.call ?_ (by with_reducible assumption)) | go_size))⟩
                    · have e4 : (ks == 4) = false := by simpa using h4
                      have H4 := Lib.hid h4
                      clear h4
                      have HQ := Lib.hid (HT.out (by rw [HQ0.out]; simp [follows, H1.out, H4.out]))
                      clear HT HB
                      go_wp2_with (go_at_call 39; ((with_reducible refine (fitsPoint_calls _ _ _).mono ?_); rintro E w1 ⟨rfl, rfl⟩; (first | rw [HG0.out] | rw [HG1.out] | rw [HG2.out])))
                      refine wp_loop_rounds 4 ?_
                      repeat any_goals (rw [rounds_succ]; go_wp2_with (go_at_call 39; ((with_reducible refine (fitsPoint_calls _ _ _).mono ?_); rintro E w1 ⟨rfl, rfl⟩; (first | rw [HG0.out] | rw [HG1.out] | rw [HG2.out]))))
                      go_roundw
                      case rel => exact ⟨k + 1 + 1, by omega, by go_num, HQ.out, by (repeat' (first | (with_reducible exact Up.refl _) | (with_reducible assumption) | (with_reducible refine Up.alloc ?_ _) | (with_reducible refine Up.drew ?_) | (with_reducible refine Up.drewN ?_ _) | (with_reducible refine Up.setCell ?_ ?_ _) | (with_reducible refine Up.call ?_ (by with_reducible assumption)) | go_size))⟩
                      case measure => simp [intOf]; omega
        · clear hcase
          have HN := Lib.hid hn
          clear hn
          cases f0
          · skip
            have HQ := Lib.hid (HB.out (by simp [soundSeg, Seg.pts, points, nz, HG0.out]))
            clear HT HB
            go_wp2_with (go_at_call 39; ((with_reducible refine (fitsPoint_calls _ _ _).mono ?_); rintro E w1 ⟨rfl, rfl⟩; (first | rw [HG0.out] | rw [HG1.out] | rw [HG2.out])))
            refine wp_loop_rounds 4 ?_
            repeat any_goals (rw [rounds_succ]; go_wp2_with (go_at_call 39; ((with_reducible refine (fitsPoint_calls _ _ _).mono ?_); rintro E w1 ⟨rfl, rfl⟩; (first | rw [HG0.out] | rw [HG1.out] | rw [HG2.out]))))
            go_ret
            exact ⟨by rw [HQ.out]; rfl, by (repeat' (first | (with_reducible exact Up.refl _) | (with_reducible assumption) | (with_reducible refine Up.alloc ?_ _) | (with_reducible refine Up.drew ?_) | (with_reducible refine Up.drewN ?_ _) | (with_reducible refine Up.setCell ?_ ?_ _) | (with_reducible refine Up.call ?_ (by with_reducible assumption)) | go_size))⟩
          · skip
            cases f1
            · skip
              have HQ := Lib.hid (HB.out (by simp [soundSeg, Seg.pts, points, nz, HG1.out]))
              clear HT HB
              go_wp2_with (go_at_call 39; ((with_reducible refine (fitsPoint_calls _ _ _).mono ?_); rintro E w1 ⟨rfl, rfl⟩; (first | rw [HG0.out] | rw [HG1.out] | rw [HG2.out])))
              refine wp_loop_rounds 4 ?_
              repeat any_goals (rw [rounds_succ]; go_wp2_with (go_at_call 39; ((with_reducible refine (fitsPoint_calls _ _ _).mono ?_); rintro E w1 ⟨rfl, rfl⟩; (first | rw [HG0.out] | rw [HG1.out] | rw [HG2.out]))))
              go_ret
              exact ⟨by rw [HQ.out]; rfl, by (repeat' (first | (with_reducible exact Up.refl _) | (with_reducible assumption) | (with_reducible refine Up.alloc ?_ _) | (with_reducible refine Up.drew ?_) | (with_reducible refine Up.drewN ?_ _) | (with_reducible refine Up.setCell ?_ ?_ _) | (with_reducible refine Up.call ?_ (by with_reducible assumption)) | go_size))⟩
            · skip
              cases f2
              · skip
                have HQ := Lib.hid (HB.out (by simp [soundSeg, Seg.pts, points, nz, HG2.out]))
                clear HT HB
                go_wp2_with (go_at_call 39; ((with_reducible refine (fitsPoint_calls _ _ _).mono ?_); rintro E w1 ⟨rfl, rfl⟩; (first | rw [HG0.out] | rw [HG1.out] | rw [HG2.out])))
                refine wp_loop_rounds 4 ?_
                repeat any_goals (rw [rounds_succ]; go_wp2_with (go_at_call 39; ((with_reducible refine (fitsPoint_calls _ _ _).mono ?_); rintro E w1 ⟨rfl, rfl⟩; (first | rw [HG0.out] | rw [HG1.out] | rw [HG2.out]))))
                go_ret
                exact ⟨by rw [HQ.out]; rfl, by (repeat' (first | (with_reducible exact Up.refl _) | (with_reducible assumption) | (with_reducible refine Up.alloc ?_ _) | (with_reducible refine Up.drew ?_) | (with_reducible refine Up.drewN ?_ _) | (with_reducible refine Up.setCell ?_ ?_ _) | (with_reducible refine Up.call ?_ (by with_reducible assumption)) | go_size))⟩
              · skip
                have HQ0 := Lib.hid (show soundSeg L _ = follows 3 L from (by simp [soundSeg, Seg.pts, points, nz, HG0.out, HG1.out, HG2.out] : soundSeg L ⟨3, (x0, y0), (x1, y1), (x2, y2)⟩ = follows 3 L))
                cases k with
                | zero =>
                  obtain rfl : 0 = L := HL.out
                  rw [Nat.zero_mul, Nat.add_zero] at c0 c1 c2 c3 c4 c5 c6
                  have HQ := Lib.hid (HB.out (by rw [HQ0.out]; rfl))
                  clear HT HB
                  go_wp2_with (go_at_call 39; ((with_reducible refine (fitsPoint_calls _ _ _).mono ?_); rintro E w1 ⟨rfl, rfl⟩; (first | rw [HG0.out] | rw [HG1.out] | rw [HG2.out])))
                  refine wp_loop_rounds 4 ?_
                  repeat any_goals (rw [rounds_succ]; go_wp2_with (go_at_call 39; ((with_reducible refine (fitsPoint_calls _ _ _).mono ?_); rintro E w1 ⟨rfl, rfl⟩; (first | rw [HG0.out] | rw [HG1.out] | rw [HG2.out]))))
                  go_ret
                  exact ⟨by rw [HQ.out]; rfl, by (repeat' (first | (with_reducible exact Up.refl _) | (with_reducible assumption) | (with_reducible refine Up.alloc ?_ _) | (with_reducible refine Up.drew ?_) | (with_reducible refine Up.drewN ?_ _) | (with_reducible refine Up.setCell ?_ ?_ _) | (with_reducible refine Up.call ?_ (by with_reducible assumption)) | go_size))⟩
                | succ k =>
                  obtain ⟨s, hs⟩ : ∃ s, l[k]? = some s := ⟨_, List.getElem?_eq_getElem (by omega)⟩
                  obtain ⟨ks, ps, qs, rs⟩ := s
                  have hc := (hup.cells.1 b _ hb).trans (HS.out k _ 0 _ hs rfl)
                  rw [Nat.add_zero] at hc
                  dsimp only at hc
                  obtain rfl : ks = L := (lastK_step hs).symm.trans HL.out
                  have hcF : ((((wr.alloc (.cells #[.int .i64 3, .int .i64 x0, .int .i64 y0, .int .i64 x1, .int .i64 y1, .int .i64 x2, .int .i64 y2] 68)).alloc (.cells #[.int .i64 x0, .int .i64 y0] 65)).alloc (.cells #[.int .i64 x1, .int .i64 y1] 65)).alloc (.cells #[.int .i64 x2, .int .i64 y2] 65)).cell? ⟨b, o + k * 7, none⟩ = some (.int .i64 ks) := (World.cell?_alloc_lt _ _ _ (by simp; omega)).trans ((World.cell?_alloc_lt _ _ _ (by simp; omega)).trans ((World.cell?_alloc_lt _ _ _ (by simp; omega)).trans ((World.cell?_alloc_lt _ _ _ hbr).trans hc)))
                  clear hs
                  by_cases h1 : ks = 0
                  · subst h1
                    have HQ := Lib.hid (HB.out (by rw [HQ0.out]; rfl))
                    clear HT HB
                    go_wp2_with (go_at_call 39; ((with_reducible refine (fitsPoint_calls _ _ _).mono ?_); rintro E w1 ⟨rfl, rfl⟩; (first | rw [HG0.out] | rw [HG1.out] | rw [HG2.out])))
                    refine wp_loop_rounds 4 ?_
                    repeat any_goals (rw [rounds_succ]; go_wp2_with (go_at_call 39; ((with_reducible refine (fitsPoint_calls _ _ _).mono ?_); rintro E w1 ⟨rfl, rfl⟩; (first | rw [HG0.out] | rw [HG1.out] | rw [HG2.out]))))
                    go_ret
                    exact ⟨by rw [HQ.out]; rfl, by (repeat' (first | (with_reducible exact Up.refl _) | (with_reducible assumption) | (with_reducible refine Up.alloc ?_ _) | (with_reducible refine Up.drew ?_) | (with_reducible refine Up.drewN ?_ _) | (with_reducible refine Up.setCell ?_ ?_ _) | (with_reducible refine Up.call ?_ (by with_reducible assumption)) | go_size))⟩
                  · have e1 : (ks == 0) = false := by simpa using h1
                    have H1 := Lib.hid h1
                    clear h1
                    by_cases h4 : ks = 4
                    · subst h4
                      have HQ := Lib.hid (HB.out (by rw [HQ0.out]; rfl))
                      clear HT HB
                      go_wp2_with (go_at_call 39; ((with_reducible refine (fitsPoint_calls _ _ _).mono ?_); rintro E w1 ⟨rfl, rfl⟩; (first | rw [HG0.out] | rw [HG1.out] | rw [HG2.out])))
                      refine wp_loop_rounds 4 ?_
                      repeat any_goals (rw [rounds_succ]; go_wp2_with (go_at_call 39; ((with_reducible refine (fitsPoint_calls _ _ _).mono ?_); rintro E w1 ⟨rfl, rfl⟩; (first | rw [HG0.out] | rw [HG1.out] | rw [HG2.out]))))
                      go_ret
                      exact ⟨by rw [HQ.out]; rfl, by (repeat' (first | (with_reducible exact Up.refl _) | (with_reducible assumption) | (with_reducible refine Up.alloc ?_ _) | (with_reducible refine Up.drew ?_) | (with_reducible refine Up.drewN ?_ _) | (with_reducible refine Up.setCell ?_ ?_ _) | (with_reducible refine Up.call ?_ (by with_reducible assumption)) | go_size))⟩
                    · have e4 : (ks == 4) = false := by simpa using h4
                      have H4 := Lib.hid h4
                      clear h4
                      have HQ := Lib.hid (HT.out (by rw [HQ0.out]; simp [follows, H1.out, H4.out]))
                      clear HT HB
                      go_wp2_with (go_at_call 39; ((with_reducible refine (fitsPoint_calls _ _ _).mono ?_); rintro E w1 ⟨rfl, rfl⟩; (first | rw [HG0.out] | rw [HG1.out] | rw [HG2.out])))
                      refine wp_loop_rounds 4 ?_
                      repeat any_goals (rw [rounds_succ]; go_wp2_with (go_at_call 39; ((with_reducible refine (fitsPoint_calls _ _ _).mono ?_); rintro E w1 ⟨rfl, rfl⟩; (first | rw [HG0.out] | rw [HG1.out] | rw [HG2.out]))))
                      go_roundw
                      case rel => exact ⟨k + 1 + 1, by omega, by go_num, HQ.out, by (repeat' (first | (with_reducible exact Up.refl _) | (with_reducible assumption) | (with_reducible refine Up.alloc ?_ _) | (with_reducible refine Up.drew ?_) | (with_reducible refine Up.drewN ?_ _) | (with_reducible refine Up.setCell ?_ ?_ _) | (with_reducible refine Up.call ?_ (by with_reducible assumption)) | go_size))⟩
                      case measure => simp [intOf]; omega
        · clear hcase
          have HN := Lib.hid hn
          clear hn
          cases f0
          · skip
            have HQ := Lib.hid (HB.out (by simp [soundSeg, Seg.pts, points, nz, HG0.out]))
            clear HT HB
            go_wp2_with (go_at_call 39; ((with_reducible refine (fitsPoint_calls _ _ _).mono ?_); rintro E w1 ⟨rfl, rfl⟩; (first | rw [HG0.out] | rw [HG1.out] | rw [HG2.out])))
            refine wp_loop_rounds 4 ?_
            repeat any_goals (rw [rounds_succ]; go_wp2_with (go_at_call 39; ((with_reducible refine (fitsPoint_calls _ _ _).mono ?_); rintro E w1 ⟨rfl, rfl⟩; (first | rw [HG0.out] | rw [HG1.out] | rw [HG2.out]))))
            go_ret
            exact ⟨by rw [HQ.out]; rfl, by (repeat' (first | (with_reducible exact Up.refl _) | (with_reducible assumption) | (with_reducible refine Up.alloc ?_ _) | (with_reducible refine Up.drew ?_) | (with_reducible refine Up.drewN ?_ _) | (with_reducible refine Up.setCell ?_ ?_ _) | (with_reducible refine Up.call ?_ (by with_reducible assumption)) | go_size))⟩
          · skip
            by_cases hx0 : x0 = 0
            rotate_left
            · have dx0 : (x0 != 0) = true := by simpa using hx0
              have Hx0 := Lib.hid hx0
              clear hx0
              have HQ := Lib.hid (HB.out (by simp [soundSeg, Seg.pts, points, nz, Hx0.out]))
              clear HT HB
              go_wp2_with (go_at_call 39; ((with_reducible refine (fitsPoint_calls _ _ _).mono ?_); rintro E w1 ⟨rfl, rfl⟩; (first | rw [HG0.out] | rw [HG1.out] | rw [HG2.out])))
              refine wp_loop_rounds 4 ?_
              repeat any_goals (rw [rounds_succ]; go_wp2_with (go_at_call 39; ((with_reducible refine (fitsPoint_calls _ _ _).mono ?_); rintro E w1 ⟨rfl, rfl⟩; (first | rw [HG0.out] | rw [HG1.out] | rw [HG2.out]))))
              go_ret
              exact ⟨by rw [HQ.out]; rfl, by (repeat' (first | (with_reducible exact Up.refl _) | (with_reducible assumption) | (with_reducible refine Up.alloc ?_ _) | (with_reducible refine Up.drew ?_) | (with_reducible refine Up.drewN ?_ _) | (with_reducible refine Up.setCell ?_ ?_ _) | (with_reducible refine Up.call ?_ (by with_reducible assumption)) | go_size))⟩
            subst hx0
            by_cases hy0 : y0 = 0
            rotate_left
            · have dy0 : (y0 != 0) = true := by simpa using hy0
              have Hy0 := Lib.hid hy0
              clear hy0
              have HQ := Lib.hid (HB.out (by simp [soundSeg, Seg.pts, points, nz, Hy0.out]))
              clear HT HB
              go_wp2_with (go_at_call 39; ((with_reducible refine (fitsPoint_calls _ _ _).mono ?_); rintro E w1 ⟨rfl, rfl⟩; (first | rw [HG0.out] | rw [HG1.out] | rw [HG2.out])))
              refine wp_loop_rounds 4 ?_
              repeat any_goals (rw [rounds_succ]; go_wp2_with (go_at_call 39; ((with_reducible refine (fitsPoint_calls _ _ _).mono ?_); rintro E w1 ⟨rfl, rfl⟩; (first | rw [HG0.out] | rw [HG1.out] | rw [HG2.out]))))
              go_ret
              exact ⟨by rw [HQ.out]; rfl, by (repeat' (first | (with_reducible exact Up.refl _) | (with_reducible assumption) | (with_reducible refine Up.alloc ?_ _) | (with_reducible refine Up.drew ?_) | (with_reducible refine Up.drewN ?_ _) | (with_reducible refine Up.setCell ?_ ?_ _) | (with_reducible refine Up.call ?_ (by with_reducible assumption)) | go_size))⟩
            subst hy0
            cases f1
            · skip
              have HQ := Lib.hid (HB.out (by simp [soundSeg, Seg.pts, points, nz, HG1.out]))
              clear HT HB
              go_wp2_with (go_at_call 39; ((with_reducible refine (fitsPoint_calls _ _ _).mono ?_); rintro E w1 ⟨rfl, rfl⟩; (first | rw [HG0.out] | rw [HG1.out] | rw [HG2.out])))
              refine wp_loop_rounds 4 ?_
              repeat any_goals (rw [rounds_succ]; go_wp2_with (go_at_call 39; ((with_reducible refine (fitsPoint_calls _ _ _).mono ?_); rintro E w1 ⟨rfl, rfl⟩; (first | rw [HG0.out] | rw [HG1.out] | rw [HG2.out]))))
              go_ret
              exact ⟨by rw [HQ.out]; rfl, by (repeat' (first | (with_reducible exact Up.refl _) | (with_reducible assumption) | (with_reducible refine Up.alloc ?_ _) | (with_reducible refine Up.drew ?_) | (with_reducible refine Up.drewN ?_ _) | (with_reducible refine Up.setCell ?_ ?_ _) | (with_reducible refine Up.call ?_ (by with_reducible assumption)) | go_size))⟩
            · skip
              by_cases hx1 : x1 = 0
              rotate_left
              · have dx1 : (x1 != 0) = true := by simpa using hx1
                have Hx1 := Lib.hid hx1
                clear hx1
                have HQ := Lib.hid (HB.out (by simp [soundSeg, Seg.pts, points, nz, Hx1.out]))
                clear HT HB
                go_wp2_with (go_at_call 39; ((with_reducible refine (fitsPoint_calls _ _ _).mono ?_); rintro E w1 ⟨rfl, rfl⟩; (first | rw [HG0.out] | rw [HG1.out] | rw [HG2.out])))
                refine wp_loop_rounds 4 ?_
                repeat any_goals (rw [rounds_succ]; go_wp2_with (go_at_call 39; ((with_reducible refine (fitsPoint_calls _ _ _).mono ?_); rintro E w1 ⟨rfl, rfl⟩; (first | rw [HG0.out] | rw [HG1.out] | rw [HG2.out]))))
                go_ret
                exact ⟨by rw [HQ.out]; rfl, by (repeat' (first | (with_reducible exact Up.refl _) | (with_reducible assumption) | (with_reducible refine Up.alloc ?_ _) | (with_reducible refine Up.drew ?_) | (with_reducible refine Up.drewN ?_ _) | (with_reducible refine Up.setCell ?_ ?_ _) | (with_reducible refine Up.call ?_ (by with_reducible assumption)) | go_size))⟩
              subst hx1
              by_cases hy1 : y1 = 0
              rotate_left
              · have dy1 : (y1 != 0) = true := by simpa using hy1
                have Hy1 := Lib.hid hy1
                clear hy1
                have HQ := Lib.hid (HB.out (by simp [soundSeg, Seg.pts, points, nz, Hy1.out]))
                clear HT HB
                go_wp2_with (go_at_call 39; ((with_reducible refine (fitsPoint_calls _ _ _).mono ?_); rintro E w1 ⟨rfl, rfl⟩; (first | rw [HG0.out] | rw [HG1.out] | rw [HG2.out])))
                refine wp_loop_rounds 4 ?_
                repeat any_goals (rw [rounds_succ]; go_wp2_with (go_at_call 39; ((with_reducible refine (fitsPoint_calls _ _ _).mono ?_); rintro E w1 ⟨rfl, rfl⟩; (first | rw [HG0.out] | rw [HG1.out] | rw [HG2.out]))))
                go_ret
                exact ⟨by rw [HQ.out]; rfl, by (repeat' (first | (with_reducible exact Up.refl _) | (with_reducible assumption) | (with_reducible refine Up.alloc ?_ _) | (with_reducible refine Up.drew ?_) | (with_reducible refine Up.drewN ?_ _) | (with_reducible refine Up.setCell ?_ ?_ _) | (with_reducible refine Up.call ?_ (by with_reducible assumption)) | go_size))⟩
              subst hy1
              cases f2
              · skip
                have HQ := Lib.hid (HB.out (by simp [soundSeg, Seg.pts, points, nz, HG2.out]))
                clear HT HB
                go_wp2_with (go_at_call 39; ((with_reducible refine (fitsPoint_calls _ _ _).mono ?_); rintro E w1 ⟨rfl, rfl⟩; (first | rw [HG0.out] | rw [HG1.out] | rw [HG2.out])))
                refine wp_loop_rounds 4 ?_
                repeat any_goals (rw [rounds_succ]; go_wp2_with (go_at_call 39; ((with_reducible refine (fitsPoint_calls _ _ _).mono ?_); rintro E w1 ⟨rfl, rfl⟩; (first | rw [HG0.out] | rw [HG1.out] | rw [HG2.out]))))
                go_ret
                exact ⟨by rw [HQ.out]; rfl, by (repeat' (first | (with_reducible exact Up.refl _) | (with_reducible assumption) | (with_reducible refine Up.alloc ?_ _) | (with_reducible refine Up.drew ?_) | (with_reducible refine Up.drewN ?_ _) | (with_reducible refine Up.setCell ?_ ?_ _) | (with_reducible refine Up.call ?_ (by with_reducible assumption)) | go_size))⟩
              · skip
                by_cases hx2 : x2 = 0
                rotate_left
                · have dx2 : (x2 != 0) = true := by simpa using hx2
                  have Hx2 := Lib.hid hx2
                  clear hx2
                  have HQ := Lib.hid (HB.out (by simp [soundSeg, Seg.pts, points, nz, Hx2.out]))
                  clear HT HB
                  go_wp2_with (go_at_call 39; ((with_reducible refine (fitsPoint_calls _ _ _).mono ?_); rintro E w1 ⟨rfl, rfl⟩; (first | rw [HG0.out] | rw [HG1.out] | rw [HG2.out])))
                  refine wp_loop_rounds 4 ?_
                  repeat any_goals (rw [rounds_succ]; go_wp2_with (go_at_call 39; ((with_reducible refine (fitsPoint_calls _ _ _).mono ?_); rintro E w1 ⟨rfl, rfl⟩; (first | rw [HG0.out] | rw [HG1.out] | rw [HG2.out]))))
                  go_ret
                  exact ⟨by rw [HQ.out]; rfl, by (repeat' (first | (with_reducible exact Up.refl _) | (with_reducible assumption) | (with_reducible refine Up.alloc ?_ _) | (with_reducible refine Up.drew ?_) | (with_reducible refine Up.drewN ?_ _) | (with_reducible refine Up.setCell ?_ ?_ _) | (with_reducible refine Up.call ?_ (by with_reducible assumption)) | go_size))⟩
                subst hx2
                by_cases hy2 : y2 = 0
                rotate_left
                · have dy2 : (y2 != 0) = true := by simpa using hy2
                  have Hy2 := Lib.hid hy2
                  clear hy2
                  have HQ := Lib.hid (HB.out (by simp [soundSeg, Seg.pts, points, nz, Hy2.out]))
                  clear HT HB
                  go_wp2_with (go_at_call 39; ((with_reducible refine (fitsPoint_calls _ _ _).mono ?_); rintro E w1 ⟨rfl, rfl⟩; (first | rw [HG0.out] | rw [HG1.out] | rw [HG2.out])))
                  refine wp_loop_rounds 4 ?_
                  repeat any_goals (rw [rounds_succ]; go_wp2_with (go_at_call 39; ((with_reducible refine (fitsPoint_calls _ _ _).mono ?_); rintro E w1 ⟨rfl, rfl⟩; (first | rw [HG0.out] | rw [HG1.out] | rw [HG2.out]))))
                  go_ret
                  exact ⟨by rw [HQ.out]; rfl, by (repeat' (first | (with_reducible exact Up.refl _) | (with_reducible assumption) | (with_reducible refine Up.alloc ?_ _) | (with_reducible refine Up.drew ?_) | (with_reducible refine Up.drewN ?_ _) | (with_reducible refine Up.setCell ?_ ?_ _) | (with_reducible refine Up.call ?_ (by with_reducible assumption)) | go_size))⟩
                subst hy2
                have HQ0 := Lib.hid (by simp [soundSeg, Seg.pts, points, nz, HG0.out, HG1.out, HG2.out] : soundSeg L ⟨4, (0, 0), (0, 0), (0, 0)⟩ = follows 4 L)
                cases k with
                | zero =>
                  obtain rfl : 0 = L := HL.out
                  rw [Nat.zero_mul, Nat.add_zero] at c0 c1 c2 c3 c4 c5 c6
                  have HQ := Lib.hid (HB.out (by rw [HQ0.out]; rfl))
                  clear HT HB
                  go_wp2_with (go_at_call 39; ((with_reducible refine (fitsPoint_calls _ _ _).mono ?_); rintro E w1 ⟨rfl, rfl⟩; (first | rw [HG0.out] | rw [HG1.out] | rw [HG2.out])))
                  refine wp_loop_rounds 4 ?_
                  repeat any_goals (rw [rounds_succ]; go_wp2_with (go_at_call 39; ((with_reducible refine (fitsPoint_calls _ _ _).mono ?_); rintro E w1 ⟨rfl, rfl⟩; (first | rw [HG0.out] | rw [HG1.out] | rw [HG2.out]))))
                  go_ret
                  exact ⟨by rw [HQ.out]; rfl, by (repeat' (first | (with_reducible exact Up.refl _) | (with_reducible assumption) | (with_reducible refine Up.alloc ?_ _) | (with_reducible refine Up.drew ?_) | (with_reducible refine Up.drewN ?_ _) | (with_reducible refine Up.setCell ?_ ?_ _) | (with_reducible refine Up.call ?_ (by with_reducible assumption)) | go_size))⟩
                | succ k =>
                  obtain ⟨s, hs⟩ : ∃ s, l[k]? = some s := ⟨_, List.getElem?_eq_getElem (by omega)⟩
                  obtain ⟨ks, ps, qs, rs⟩ := s
                  have hc := (hup.cells.1 b _ hb).trans (HS.out k _ 0 _ hs rfl)
                  rw [Nat.add_zero] at hc
                  dsimp only at hc
                  obtain rfl : ks = L := (lastK_step hs).symm.trans HL.out
                  have hcF : ((((wr.alloc (.cells #[.int .i64 4, .int .i64 0, .int .i64 0, .int .i64 0, .int .i64 0, .int .i64 0, .int .i64 0] 68)).alloc (.cells #[.int .i64 0, .int .i64 0] 65)).alloc (.cells #[.int .i64 0, .int .i64 0] 65)).alloc (.cells #[.int .i64 0, .int .i64 0] 65)).cell? ⟨b, o + k * 7, none⟩ = some (.int .i64 ks) := (World.cell?_alloc_lt _ _ _ (by simp; omega)).trans ((World.cell?_alloc_lt _ _ _ (by simp; omega)).trans ((World.cell?_alloc_lt _ _ _ (by simp; omega)).trans ((World.cell?_alloc_lt _ _ _ hbr).trans hc)))
                  clear hs
                  by_cases h1 : ks = 0
                  · subst h1
                    have HQ := Lib.hid (HB.out (by rw [HQ0.out]; rfl))
                    clear HT HB
                    go_wp2_with (go_at_call 39; ((with_reducible refine (fitsPoint_calls _ _ _).mono ?_); rintro E w1 ⟨rfl, rfl⟩; (first | rw [HG0.out] | rw [HG1.out] | rw [HG2.out])))
                    refine wp_loop_rounds 4 ?_
                    repeat any_goals (rw [rounds_succ]; go_wp2_with (go_at_call 39; ((with_reducible refine (fitsPoint_calls _ _ _).mono ?_); rintro E w1 ⟨rfl, rfl⟩; (first | rw [HG0.out] | rw [HG1.out] | rw [HG2.out]))))
                    go_ret
                    exact ⟨by rw [HQ.out]; rfl, by (repeat' (first | (with_reducible exact Up.refl _) | (with_reducible assumption) | (with_reducible refine Up.alloc ?_ _) | (with_reducible refine Up.drew ?_) | (with_reducible refine Up.drewN ?_ _) | (with_reducible refine Up.setCell ?_ ?_ _) | (with_reducible refine Up.call ?_ (by with_reducible assumption)) | go_size))⟩
                  · have e1 : (ks == 0) = false := by simpa using h1
                    have H1 := Lib.hid h1
                    clear h1
                    by_cases h4 : ks = 4
                    · subst h4
                      have HQ := Lib.hid (HB.out (by rw [HQ0.out]; rfl))
                      clear HT HB
                      go_wp2_with (go_at_call 39; ((with_reducible refine (fitsPoint_calls _ _ _).mono ?_); rintro E w1 ⟨rfl, rfl⟩; (first | rw [HG0.out] | rw [HG1.out] | rw [HG2.out])))
                      refine wp_loop_rounds 4 ?_
                      repeat any_goals (rw [rounds_succ]; go_wp2_with (go_at_call 39; ((with_reducible refine (fitsPoint_calls _ _ _).mono ?_); rintro E w1 ⟨rfl, rfl⟩; (first | rw [HG0.out] | rw [HG1.out] | rw [HG2.out]))))
                      go_ret
                      exact ⟨by rw [HQ.out]; rfl, by (repeat' (first | (with_reducible exact Up.refl _) | (with_reducible assumption) | (with_reducible refine Up.alloc ?_ _) | (with_reducible refine Up.drew ?_) | (with_reducible refine Up.drewN ?_ _) | (with_reducible refine Up.setCell ?_ ?_ _) | (with_reducible refine Up.call ?_ (by with_reducible assumption)) | go_size))⟩
                    · have e4 : (ks == 4) = false := by simpa using h4
                      have H4 := Lib.hid h4
                      clear h4
                      have HQ := Lib.hid (HT.out (by rw [HQ0.out]; simp [follows, H1.out, H4.out]))
                      clear HT HB
                      go_wp2_with (go_at_call 39; ((with_reducible refine (fitsPoint_calls _ _ _).mono ?_); rintro E w1 ⟨rfl, rfl⟩; (first | rw [HG0.out] | rw [HG1.out] | rw [HG2.out])))
                      refine wp_loop_rounds 4 ?_
                      repeat any_goals (rw [rounds_succ]; go_wp2_with (go_at_call 39; ((with_reducible refine (fitsPoint_calls _ _ _).mono ?_); rintro E w1 ⟨rfl, rfl⟩; (first | rw [HG0.out] | rw [HG1.out] | rw [HG2.out]))))
                      go_roundw
                      case rel => exact ⟨k + 1 + 1, by omega, by go_num, HQ.out, by (repeat' (first | (with_reducible exact Up.refl _) | (with_reducible assumption) | (with_reducible refine Up.alloc ?_ _) | (with_reducible refine Up.drew ?_) | (with_reducible refine Up.drewN ?_ _) | (with_reducible refine Up.setCell ?_ ?_ _) | (with_reducible refine Up.call ?_ (by with_reducible assumption)) | go_size))⟩
                      case measure => simp [intOf]; omega
      · have d1 : (kk == 1) = false := by simpa using (fun e => hp (by subst e; decide))
        have d2 : (kk == 2) = false := by simpa using (fun e => hp (by subst e; decide))
        have d3 : (kk == 3) = false := by simpa using (fun e => hp (by subst e; decide))
        have d4 : (kk == 4) = false := by simpa using (fun e => hp (by subst e; decide))
        have HQ := Lib.hid (HB.out (by unfold soundSeg; rw [decide_eq_false hp]; rfl))
        clear hp
        go_wp2
        go_ret
        exact ⟨by rw [HQ.out]; rfl, by (repeat' (first | (with_reducible exact Up.refl _) | (with_reducible assumption) | (with_reducible refine Up.alloc ?_ _) | (with_reducible refine Up.drew ?_) | (with_reducible refine Up.drewN ?_ _) | (with_reducible refine Up.setCell ?_ ?_ _) | (with_reducible refine Up.call ?_ (by with_reducible assumption)) | go_size))⟩
    · have H := Lib.hid (sound_all hno (by omega) (by omega))
      clear hno
      go_wp2
      go_ret
      exact ⟨by rw [H.out]; rfl, by (repeat' (first | (with_reducible exact Up.refl _) | (with_reducible assumption) | (with_reducible refine Up.alloc ?_ _) | (with_reducible refine Up.drew ?_) | (with_reducible refine Up.drewN ?_ _) | (with_reducible refine Up.setCell ?_ ?_ _) | (with_reducible refine Up.call ?_ (by with_reducible assumption)) | go_size))⟩

end Go.Proofs.YteddlahklilncaaDoor.Path
