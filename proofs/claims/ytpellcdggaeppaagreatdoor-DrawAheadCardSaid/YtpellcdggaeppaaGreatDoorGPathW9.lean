/- Sound. -/
import Derived.Test.YtpellcdggaeppaaGreatDoorGPathW8
import Derived.LoopN
namespace Go.Proofs.YtpellcdggaeppaaGreatDoor.Path
open Go.ChangeShapes Go.WideShapes Go.ChangeAt Go.RowKit
open Go.Proofs.YtpellcdggaeppaaGreatDoor.FixM (fits)
open Go.Proofs.YtpellcdggaeppaaGreatDoor.PathM
set_option linter.unusedVariables false
set_option linter.unusedSimpArgs false

theorem fits_calls3 (l : List Pt) (n b o c : Nat) (w : World) (hn : l.length = n) (hl : n ≤ 1000000000) (h : Pts w b o l) (hb : b < w.heap.size) :
    Calls Tryz.prog 114 #[.slice (some ⟨b, o, none⟩) n c] w fun e w' => e = .returned (.bool (l.all fitsP)) ∧ Up w w' := by
  subst hn
  exact fits_calls l b o c w hl h hb
theorem contains_sound3 (l : List Pt) (n b o c : Nat) (w : World) (hn : l.length = n) (hl : n ≤ 1000000000) (h : Pts w b o l) (hb : b < w.heap.size) :
    Calls Tryz.prog 115 #[.slice (some ⟨b, o, none⟩) n c, .func (.func 116) #[] #[]] w fun e w' => e = .returned (.bool (l.any nz)) ∧ Up w w' := by
  subst hn
  exact contains_sound l b o c w hl h hb
section
variable {w : World} {g : Nat} {k x0 y0 x1 y1 x2 y2 : Int}
theorem segPts0 (h : Row w g #[.int .i64 k, .int .i64 x0, .int .i64 y0, .int .i64 x1, .int .i64 y1, .int .i64 x2, .int .i64 y2]) : Pts w g 1 [(x0, y0), (x1, y1), (x2, y2)] := fun i p hp => by
  match i, hp with
  | 0, hp => obtain rfl : (x0, y0) = p := by simpa using hp
             exact ⟨h.cell 1 rfl, h.cell 2 rfl⟩
  | 1, hp => obtain rfl : (x1, y1) = p := by simpa using hp
             exact ⟨h.cell 3 rfl, h.cell 4 rfl⟩
  | 2, hp => obtain rfl : (x2, y2) = p := by simpa using hp
             exact ⟨h.cell 5 rfl, h.cell 6 rfl⟩
  | i + 3, hp => simp at hp
theorem segPts1 (h : Row w g #[.int .i64 k, .int .i64 x0, .int .i64 y0, .int .i64 x1, .int .i64 y1, .int .i64 x2, .int .i64 y2]) : Pts w g 3 [(x1, y1), (x2, y2)] := fun i p hp => by
  match i, hp with
  | 0, hp => obtain rfl : (x1, y1) = p := by simpa using hp
             exact ⟨h.cell 3 rfl, h.cell 4 rfl⟩
  | 1, hp => obtain rfl : (x2, y2) = p := by simpa using hp
             exact ⟨h.cell 5 rfl, h.cell 6 rfl⟩
  | i + 2, hp => simp at hp
theorem segPts3 (o : Nat) : Pts w g o [] := fun i p hp => by simp at hp
end

set_option maxHeartbeats 2000000 in
theorem sound_calls (v : Value) (l : List Seg) (w : World) (h : SegV w v l) :
    Calls Tryz.prog 73 #[v] w fun e w' => e = .returned (.bool (sound l)) ∧ Up w w' := by
  rcases h with ⟨a, cap, rfl, rfl⟩ | ⟨b, o, cap, rfl, h0, hb, hs, hl⟩
  · go_enter Tryz.func73, Tryz.ntmps73
    go_wp2
    refine wp_loop_rounds 1 ?_
    repeat any_goals (rw [rounds_succ]; go_wp2)
    go_ret
    exact ⟨rfl, by (repeat' (first | (with_reducible first | exact Up.refl _ | assumption | refine Up.alloc ?_ _ | refine Up.drew ?_ | refine Up.drewN ?_ _ | refine Up.setCell ?_ ?_ _ | refine Up.call ?_ (by assumption)) | go_size))⟩
  by_cases h4 : 4096 < l.length
  · have H := Lib.hid (sound_long h4)
    clear hs
    go_enter Tryz.func73, Tryz.ntmps73
    go_wp2
    go_ret
    exact ⟨by rw [H.out]; rfl, by (repeat' (first | (with_reducible first | exact Up.refl _ | assumption | refine Up.alloc ?_ _ | refine Up.drew ?_ | refine Up.drewN ?_ _ | refine Up.setCell ?_ ?_ _ | refine Up.call ?_ (by assumption)) | go_size))⟩
  have HS := Lib.hid hs
  clear hs
  go_enter Tryz.func73, Tryz.ntmps73
  go_wp2
  go_loopw [3, 12] (fun last i wr => ∃ k : Nat, k ≤ l.length ∧ last = .int .i64 (lastK (l.take k)) ∧ i = .int .i64 k ∧ soundFrom 0 (l.take k) = true ∧ Up w wr) (fun last i _ => l.length - (intOf i).toNat)
  case atStart => exact ⟨0, Nat.zero_le _, rfl, rfl, rfl, Up.refl _⟩
  case round =>
    obtain ⟨k, hk, rfl, rfl, hno, hup⟩ := hrel
    by_cases hlt : k < l.length
    · obtain ⟨kk, x0, y0, x1, y1, x2, y2, hg⟩ : ∃ kk x0 y0 x1 y1 x2 y2, l[k]? = some ⟨kk, (x0, y0), (x1, y1), (x2, y2)⟩ := ⟨_, _, _, _, _, _, _, List.getElem?_eq_getElem hlt⟩
      obtain ⟨L, hL⟩ : ∃ L, lastK (l.take k) = L := ⟨_, rfl⟩
      rw [hL]
      obtain ⟨c0, c1, c2, c3, c4, c5, c6⟩ := HS.out.seven k _ _ _ _ _ _ _ hg
      replace c0 := (hup.cells.1 b _ hb).trans c0
      replace c1 := (hup.cells.1 b _ hb).trans c1
      replace c2 := (hup.cells.1 b _ hb).trans c2
      replace c3 := (hup.cells.1 b _ hb).trans c3
      replace c4 := (hup.cells.1 b _ hb).trans c4
      replace c5 := (hup.cells.1 b _ hb).trans c5
      replace c6 := (hup.cells.1 b _ hb).trans c6
      have hz := hup.size
      have HB := Lib.hid (fun h1 => sound_stop hg (by rw [hL]; exact h1) : soundSeg L ⟨kk, (x0, y0), (x1, y1), (x2, y2)⟩ = false → sound l = false)
      have HT := Lib.hid (fun h1 => sound_step hno hg (by rw [hL]; exact h1) : soundSeg L ⟨kk, (x0, y0), (x1, y1), (x2, y2)⟩ = true → soundFrom 0 (l.take (k + 1)) = true)
      have HK := Lib.hid (lastK_step hg)
      clear hL hno hg
      by_cases hp : 0 ≤ points kk
      · obtain ⟨f, hf⟩ : ∃ f, follows kk L = f := ⟨_, rfl⟩
        obtain ⟨g, hgg⟩ : ∃ g, [(x0, y0), (x1, y1), (x2, y2)].all fitsP = g := ⟨_, rfl⟩
        have HF := Lib.hid hf
        have HG := Lib.hid hgg
        clear hf hgg
        rcases points_cases hp with ⟨rfl, hn⟩ | ⟨rfl, hn⟩ | ⟨rfl, hn⟩ | ⟨rfl, hn⟩
        · obtain ⟨z, hzz⟩ : ∃ z, [(x1, y1), (x2, y2)].any nz = z := ⟨_, rfl⟩
          have HZ := Lib.hid hzz
          have HN := Lib.hid hn
          have HQ := Lib.hid (show soundSeg L ⟨1, (x0, y0), (x1, y1), (x2, y2)⟩ = (f && (g && !z)) by unfold soundSeg; rw [HF.out, hn]; simp only [Seg.pts]; rw [HG.out, ← hzz]; rfl)
          clear hzz hn hp
          cases f
          · go_wp2_with (first
              | (go_at_call 112; ((with_reducible refine (points_calls 1 _).mono ?_); rintro E w1 ⟨rfl, rfl⟩; rw [HN.out]))
              | (go_at_call 113; ((with_reducible refine (follows_calls 1 L _).mono ?_); rintro E w2 ⟨rfl, rfl⟩; rw [HF.out])))
            go_ret
            exact ⟨by rw [HB.out (by rw [HQ.out]; rfl)]; rfl, by (repeat' (first | (with_reducible first | exact Up.refl _ | assumption | refine Up.alloc ?_ _ | refine Up.drew ?_ | refine Up.drewN ?_ _ | refine Up.setCell ?_ ?_ _ | refine Up.call ?_ (by assumption)) | go_size))⟩
          · cases g
            · go_wp2_with (first
                | (go_at_call 112; ((with_reducible refine (points_calls 1 _).mono ?_); rintro E w1 ⟨rfl, rfl⟩; rw [HN.out]))
                | (go_at_call 113; ((with_reducible refine (follows_calls 1 L _).mono ?_); rintro E w2 ⟨rfl, rfl⟩; rw [HF.out]))
                | (go_at_call 114; ((with_reducible refine (fits_calls3 [(x0, y0), (x1, y1), (x2, y2)] 3 wr.heap.size 1 3 _ rfl (by decide) (segPts0 (show Row _ wr.heap.size #[.int .i64 1, .int .i64 x0, .int .i64 y0, .int .i64 x1, .int .i64 y1, .int .i64 x2, .int .i64 y2] from by (repeat' (with_reducible first | assumption | (refine Row.at _ _ ?_; (simp; done)) | refine Row.alloc ?_ _ | refine Row.drew ?_ | refine Row.drewN ?_ _ | refine Row.other ?_ (by first | (simp; done) | (simp; omega) | omega) _ | refine Row.up ?_ (by assumption) | refine Row.chg ?_ (by assumption) (by first | (simp; done) | (simp; omega)))))) (by simp)).mono ?_); rintro E w3 ⟨rfl, hu3⟩; rw [HG.out]; have hz3 := hu3.size; simp at hz3; have r3 : Row w3 wr.heap.size #[.int .i64 1, .int .i64 x0, .int .i64 y0, .int .i64 x1, .int .i64 y1, .int .i64 x2, .int .i64 y2] := Row.up (by (repeat' (with_reducible first | assumption | (refine Row.at _ _ ?_; (simp; done)) | refine Row.alloc ?_ _ | refine Row.drew ?_ | refine Row.drewN ?_ _ | refine Row.other ?_ (by first | (simp; done) | (simp; omega) | omega) _ | refine Row.up ?_ (by assumption) | refine Row.chg ?_ (by assumption) (by first | (simp; done) | (simp; omega))))) hu3; have l3 := r3.lt; have k3 : w3.cell? ⟨wr.heap.size, 0, none⟩ = some (.int .i64 1) := r3.cell 0 rfl)))
              go_ret
              exact ⟨by rw [HB.out (by rw [HQ.out]; rfl)]; rfl, by (repeat' (first | (with_reducible first | exact Up.refl _ | assumption | refine Up.alloc ?_ _ | refine Up.drew ?_ | refine Up.drewN ?_ _ | refine Up.setCell ?_ ?_ _ | refine Up.call ?_ (by assumption)) | go_size))⟩
            · cases z
              · go_wp2_with (first
                  | (go_at_call 112; ((with_reducible refine (points_calls 1 _).mono ?_); rintro E w1 ⟨rfl, rfl⟩; rw [HN.out]))
                  | (go_at_call 113; ((with_reducible refine (follows_calls 1 L _).mono ?_); rintro E w2 ⟨rfl, rfl⟩; rw [HF.out]))
                  | (go_at_call 114; ((with_reducible refine (fits_calls3 [(x0, y0), (x1, y1), (x2, y2)] 3 wr.heap.size 1 3 _ rfl (by decide) (segPts0 (show Row _ wr.heap.size #[.int .i64 1, .int .i64 x0, .int .i64 y0, .int .i64 x1, .int .i64 y1, .int .i64 x2, .int .i64 y2] from by (repeat' (with_reducible first | assumption | (refine Row.at _ _ ?_; (simp; done)) | refine Row.alloc ?_ _ | refine Row.drew ?_ | refine Row.drewN ?_ _ | refine Row.other ?_ (by first | (simp; done) | (simp; omega) | omega) _ | refine Row.up ?_ (by assumption) | refine Row.chg ?_ (by assumption) (by first | (simp; done) | (simp; omega)))))) (by simp)).mono ?_); rintro E w3 ⟨rfl, hu3⟩; rw [HG.out]; have hz3 := hu3.size; simp at hz3; have r3 : Row w3 wr.heap.size #[.int .i64 1, .int .i64 x0, .int .i64 y0, .int .i64 x1, .int .i64 y1, .int .i64 x2, .int .i64 y2] := Row.up (by (repeat' (with_reducible first | assumption | (refine Row.at _ _ ?_; (simp; done)) | refine Row.alloc ?_ _ | refine Row.drew ?_ | refine Row.drewN ?_ _ | refine Row.other ?_ (by first | (simp; done) | (simp; omega) | omega) _ | refine Row.up ?_ (by assumption) | refine Row.chg ?_ (by assumption) (by first | (simp; done) | (simp; omega))))) hu3; have l3 := r3.lt; have k3 : w3.cell? ⟨wr.heap.size, 0, none⟩ = some (.int .i64 1) := r3.cell 0 rfl))
                  | (go_at_call 115; ((with_reducible refine (contains_sound3 [(x1, y1), (x2, y2)] 2 _ _ _ _ rfl (by decide) (segPts1 r3) (by simpa using l3)).mono ?_); rintro E w4 ⟨rfl, hu4⟩; rw [HZ.out]; have hz4 := hu4.size; have r4 : Row w4 wr.heap.size #[.int .i64 1, .int .i64 x0, .int .i64 y0, .int .i64 x1, .int .i64 y1, .int .i64 x2, .int .i64 y2] := Row.up (by (repeat' (with_reducible first | assumption | (refine Row.at _ _ ?_; (simp; done)) | refine Row.alloc ?_ _ | refine Row.drew ?_ | refine Row.drewN ?_ _ | refine Row.other ?_ (by first | (simp; done) | (simp; omega) | omega) _ | refine Row.up ?_ (by assumption) | refine Row.chg ?_ (by assumption) (by first | (simp; done) | (simp; omega))))) hu4; have k4 : w4.cell? ⟨wr.heap.size, 0, none⟩ = some (.int .i64 1) := r4.cell 0 rfl)))
                go_roundw
                case rel => exact ⟨k + 1, by omega, by rw [HK.out], by go_num, HT.out (by rw [HQ.out]; rfl), by (repeat' (first | (with_reducible first | exact Up.refl _ | assumption | refine Up.alloc ?_ _ | refine Up.drew ?_ | refine Up.drewN ?_ _ | refine Up.setCell ?_ ?_ _ | refine Up.call ?_ (by assumption)) | go_size))⟩
                case measure => simp [intOf]; omega
              · go_wp2_with (first
                  | (go_at_call 112; ((with_reducible refine (points_calls 1 _).mono ?_); rintro E w1 ⟨rfl, rfl⟩; rw [HN.out]))
                  | (go_at_call 113; ((with_reducible refine (follows_calls 1 L _).mono ?_); rintro E w2 ⟨rfl, rfl⟩; rw [HF.out]))
                  | (go_at_call 114; ((with_reducible refine (fits_calls3 [(x0, y0), (x1, y1), (x2, y2)] 3 wr.heap.size 1 3 _ rfl (by decide) (segPts0 (show Row _ wr.heap.size #[.int .i64 1, .int .i64 x0, .int .i64 y0, .int .i64 x1, .int .i64 y1, .int .i64 x2, .int .i64 y2] from by (repeat' (with_reducible first | assumption | (refine Row.at _ _ ?_; (simp; done)) | refine Row.alloc ?_ _ | refine Row.drew ?_ | refine Row.drewN ?_ _ | refine Row.other ?_ (by first | (simp; done) | (simp; omega) | omega) _ | refine Row.up ?_ (by assumption) | refine Row.chg ?_ (by assumption) (by first | (simp; done) | (simp; omega)))))) (by simp)).mono ?_); rintro E w3 ⟨rfl, hu3⟩; rw [HG.out]; have hz3 := hu3.size; simp at hz3; have r3 : Row w3 wr.heap.size #[.int .i64 1, .int .i64 x0, .int .i64 y0, .int .i64 x1, .int .i64 y1, .int .i64 x2, .int .i64 y2] := Row.up (by (repeat' (with_reducible first | assumption | (refine Row.at _ _ ?_; (simp; done)) | refine Row.alloc ?_ _ | refine Row.drew ?_ | refine Row.drewN ?_ _ | refine Row.other ?_ (by first | (simp; done) | (simp; omega) | omega) _ | refine Row.up ?_ (by assumption) | refine Row.chg ?_ (by assumption) (by first | (simp; done) | (simp; omega))))) hu3; have l3 := r3.lt; have k3 : w3.cell? ⟨wr.heap.size, 0, none⟩ = some (.int .i64 1) := r3.cell 0 rfl))
                  | (go_at_call 115; ((with_reducible refine (contains_sound3 [(x1, y1), (x2, y2)] 2 _ _ _ _ rfl (by decide) (segPts1 r3) (by simpa using l3)).mono ?_); rintro E w4 ⟨rfl, hu4⟩; rw [HZ.out]; have hz4 := hu4.size; have r4 : Row w4 wr.heap.size #[.int .i64 1, .int .i64 x0, .int .i64 y0, .int .i64 x1, .int .i64 y1, .int .i64 x2, .int .i64 y2] := Row.up (by (repeat' (with_reducible first | assumption | (refine Row.at _ _ ?_; (simp; done)) | refine Row.alloc ?_ _ | refine Row.drew ?_ | refine Row.drewN ?_ _ | refine Row.other ?_ (by first | (simp; done) | (simp; omega) | omega) _ | refine Row.up ?_ (by assumption) | refine Row.chg ?_ (by assumption) (by first | (simp; done) | (simp; omega))))) hu4; have k4 : w4.cell? ⟨wr.heap.size, 0, none⟩ = some (.int .i64 1) := r4.cell 0 rfl)))
                go_ret
                exact ⟨by rw [HB.out (by rw [HQ.out]; rfl)]; rfl, by (repeat' (first | (with_reducible first | exact Up.refl _ | assumption | refine Up.alloc ?_ _ | refine Up.drew ?_ | refine Up.drewN ?_ _ | refine Up.setCell ?_ ?_ _ | refine Up.call ?_ (by assumption)) | go_size))⟩
        · obtain ⟨z, hzz⟩ : ∃ z, [(x1, y1), (x2, y2)].any nz = z := ⟨_, rfl⟩
          have HZ := Lib.hid hzz
          have HN := Lib.hid hn
          have HQ := Lib.hid (show soundSeg L ⟨2, (x0, y0), (x1, y1), (x2, y2)⟩ = (f && (g && !z)) by unfold soundSeg; rw [HF.out, hn]; simp only [Seg.pts]; rw [HG.out, ← hzz]; rfl)
          clear hzz hn hp
          cases f
          · go_wp2_with (first
              | (go_at_call 112; ((with_reducible refine (points_calls 2 _).mono ?_); rintro E w1 ⟨rfl, rfl⟩; rw [HN.out]))
              | (go_at_call 113; ((with_reducible refine (follows_calls 2 L _).mono ?_); rintro E w2 ⟨rfl, rfl⟩; rw [HF.out])))
            go_ret
            exact ⟨by rw [HB.out (by rw [HQ.out]; rfl)]; rfl, by (repeat' (first | (with_reducible first | exact Up.refl _ | assumption | refine Up.alloc ?_ _ | refine Up.drew ?_ | refine Up.drewN ?_ _ | refine Up.setCell ?_ ?_ _ | refine Up.call ?_ (by assumption)) | go_size))⟩
          · cases g
            · go_wp2_with (first
                | (go_at_call 112; ((with_reducible refine (points_calls 2 _).mono ?_); rintro E w1 ⟨rfl, rfl⟩; rw [HN.out]))
                | (go_at_call 113; ((with_reducible refine (follows_calls 2 L _).mono ?_); rintro E w2 ⟨rfl, rfl⟩; rw [HF.out]))
                | (go_at_call 114; ((with_reducible refine (fits_calls3 [(x0, y0), (x1, y1), (x2, y2)] 3 wr.heap.size 1 3 _ rfl (by decide) (segPts0 (show Row _ wr.heap.size #[.int .i64 2, .int .i64 x0, .int .i64 y0, .int .i64 x1, .int .i64 y1, .int .i64 x2, .int .i64 y2] from by (repeat' (with_reducible first | assumption | (refine Row.at _ _ ?_; (simp; done)) | refine Row.alloc ?_ _ | refine Row.drew ?_ | refine Row.drewN ?_ _ | refine Row.other ?_ (by first | (simp; done) | (simp; omega) | omega) _ | refine Row.up ?_ (by assumption) | refine Row.chg ?_ (by assumption) (by first | (simp; done) | (simp; omega)))))) (by simp)).mono ?_); rintro E w3 ⟨rfl, hu3⟩; rw [HG.out]; have hz3 := hu3.size; simp at hz3; have r3 : Row w3 wr.heap.size #[.int .i64 2, .int .i64 x0, .int .i64 y0, .int .i64 x1, .int .i64 y1, .int .i64 x2, .int .i64 y2] := Row.up (by (repeat' (with_reducible first | assumption | (refine Row.at _ _ ?_; (simp; done)) | refine Row.alloc ?_ _ | refine Row.drew ?_ | refine Row.drewN ?_ _ | refine Row.other ?_ (by first | (simp; done) | (simp; omega) | omega) _ | refine Row.up ?_ (by assumption) | refine Row.chg ?_ (by assumption) (by first | (simp; done) | (simp; omega))))) hu3; have l3 := r3.lt; have k3 : w3.cell? ⟨wr.heap.size, 0, none⟩ = some (.int .i64 2) := r3.cell 0 rfl)))
              go_ret
              exact ⟨by rw [HB.out (by rw [HQ.out]; rfl)]; rfl, by (repeat' (first | (with_reducible first | exact Up.refl _ | assumption | refine Up.alloc ?_ _ | refine Up.drew ?_ | refine Up.drewN ?_ _ | refine Up.setCell ?_ ?_ _ | refine Up.call ?_ (by assumption)) | go_size))⟩
            · cases z
              · go_wp2_with (first
                  | (go_at_call 112; ((with_reducible refine (points_calls 2 _).mono ?_); rintro E w1 ⟨rfl, rfl⟩; rw [HN.out]))
                  | (go_at_call 113; ((with_reducible refine (follows_calls 2 L _).mono ?_); rintro E w2 ⟨rfl, rfl⟩; rw [HF.out]))
                  | (go_at_call 114; ((with_reducible refine (fits_calls3 [(x0, y0), (x1, y1), (x2, y2)] 3 wr.heap.size 1 3 _ rfl (by decide) (segPts0 (show Row _ wr.heap.size #[.int .i64 2, .int .i64 x0, .int .i64 y0, .int .i64 x1, .int .i64 y1, .int .i64 x2, .int .i64 y2] from by (repeat' (with_reducible first | assumption | (refine Row.at _ _ ?_; (simp; done)) | refine Row.alloc ?_ _ | refine Row.drew ?_ | refine Row.drewN ?_ _ | refine Row.other ?_ (by first | (simp; done) | (simp; omega) | omega) _ | refine Row.up ?_ (by assumption) | refine Row.chg ?_ (by assumption) (by first | (simp; done) | (simp; omega)))))) (by simp)).mono ?_); rintro E w3 ⟨rfl, hu3⟩; rw [HG.out]; have hz3 := hu3.size; simp at hz3; have r3 : Row w3 wr.heap.size #[.int .i64 2, .int .i64 x0, .int .i64 y0, .int .i64 x1, .int .i64 y1, .int .i64 x2, .int .i64 y2] := Row.up (by (repeat' (with_reducible first | assumption | (refine Row.at _ _ ?_; (simp; done)) | refine Row.alloc ?_ _ | refine Row.drew ?_ | refine Row.drewN ?_ _ | refine Row.other ?_ (by first | (simp; done) | (simp; omega) | omega) _ | refine Row.up ?_ (by assumption) | refine Row.chg ?_ (by assumption) (by first | (simp; done) | (simp; omega))))) hu3; have l3 := r3.lt; have k3 : w3.cell? ⟨wr.heap.size, 0, none⟩ = some (.int .i64 2) := r3.cell 0 rfl))
                  | (go_at_call 115; ((with_reducible refine (contains_sound3 [(x1, y1), (x2, y2)] 2 _ _ _ _ rfl (by decide) (segPts1 r3) (by simpa using l3)).mono ?_); rintro E w4 ⟨rfl, hu4⟩; rw [HZ.out]; have hz4 := hu4.size; have r4 : Row w4 wr.heap.size #[.int .i64 2, .int .i64 x0, .int .i64 y0, .int .i64 x1, .int .i64 y1, .int .i64 x2, .int .i64 y2] := Row.up (by (repeat' (with_reducible first | assumption | (refine Row.at _ _ ?_; (simp; done)) | refine Row.alloc ?_ _ | refine Row.drew ?_ | refine Row.drewN ?_ _ | refine Row.other ?_ (by first | (simp; done) | (simp; omega) | omega) _ | refine Row.up ?_ (by assumption) | refine Row.chg ?_ (by assumption) (by first | (simp; done) | (simp; omega))))) hu4; have k4 : w4.cell? ⟨wr.heap.size, 0, none⟩ = some (.int .i64 2) := r4.cell 0 rfl)))
                go_roundw
                case rel => exact ⟨k + 1, by omega, by rw [HK.out], by go_num, HT.out (by rw [HQ.out]; rfl), by (repeat' (first | (with_reducible first | exact Up.refl _ | assumption | refine Up.alloc ?_ _ | refine Up.drew ?_ | refine Up.drewN ?_ _ | refine Up.setCell ?_ ?_ _ | refine Up.call ?_ (by assumption)) | go_size))⟩
                case measure => simp [intOf]; omega
              · go_wp2_with (first
                  | (go_at_call 112; ((with_reducible refine (points_calls 2 _).mono ?_); rintro E w1 ⟨rfl, rfl⟩; rw [HN.out]))
                  | (go_at_call 113; ((with_reducible refine (follows_calls 2 L _).mono ?_); rintro E w2 ⟨rfl, rfl⟩; rw [HF.out]))
                  | (go_at_call 114; ((with_reducible refine (fits_calls3 [(x0, y0), (x1, y1), (x2, y2)] 3 wr.heap.size 1 3 _ rfl (by decide) (segPts0 (show Row _ wr.heap.size #[.int .i64 2, .int .i64 x0, .int .i64 y0, .int .i64 x1, .int .i64 y1, .int .i64 x2, .int .i64 y2] from by (repeat' (with_reducible first | assumption | (refine Row.at _ _ ?_; (simp; done)) | refine Row.alloc ?_ _ | refine Row.drew ?_ | refine Row.drewN ?_ _ | refine Row.other ?_ (by first | (simp; done) | (simp; omega) | omega) _ | refine Row.up ?_ (by assumption) | refine Row.chg ?_ (by assumption) (by first | (simp; done) | (simp; omega)))))) (by simp)).mono ?_); rintro E w3 ⟨rfl, hu3⟩; rw [HG.out]; have hz3 := hu3.size; simp at hz3; have r3 : Row w3 wr.heap.size #[.int .i64 2, .int .i64 x0, .int .i64 y0, .int .i64 x1, .int .i64 y1, .int .i64 x2, .int .i64 y2] := Row.up (by (repeat' (with_reducible first | assumption | (refine Row.at _ _ ?_; (simp; done)) | refine Row.alloc ?_ _ | refine Row.drew ?_ | refine Row.drewN ?_ _ | refine Row.other ?_ (by first | (simp; done) | (simp; omega) | omega) _ | refine Row.up ?_ (by assumption) | refine Row.chg ?_ (by assumption) (by first | (simp; done) | (simp; omega))))) hu3; have l3 := r3.lt; have k3 : w3.cell? ⟨wr.heap.size, 0, none⟩ = some (.int .i64 2) := r3.cell 0 rfl))
                  | (go_at_call 115; ((with_reducible refine (contains_sound3 [(x1, y1), (x2, y2)] 2 _ _ _ _ rfl (by decide) (segPts1 r3) (by simpa using l3)).mono ?_); rintro E w4 ⟨rfl, hu4⟩; rw [HZ.out]; have hz4 := hu4.size; have r4 : Row w4 wr.heap.size #[.int .i64 2, .int .i64 x0, .int .i64 y0, .int .i64 x1, .int .i64 y1, .int .i64 x2, .int .i64 y2] := Row.up (by (repeat' (with_reducible first | assumption | (refine Row.at _ _ ?_; (simp; done)) | refine Row.alloc ?_ _ | refine Row.drew ?_ | refine Row.drewN ?_ _ | refine Row.other ?_ (by first | (simp; done) | (simp; omega) | omega) _ | refine Row.up ?_ (by assumption) | refine Row.chg ?_ (by assumption) (by first | (simp; done) | (simp; omega))))) hu4; have k4 : w4.cell? ⟨wr.heap.size, 0, none⟩ = some (.int .i64 2) := r4.cell 0 rfl)))
                go_ret
                exact ⟨by rw [HB.out (by rw [HQ.out]; rfl)]; rfl, by (repeat' (first | (with_reducible first | exact Up.refl _ | assumption | refine Up.alloc ?_ _ | refine Up.drew ?_ | refine Up.drewN ?_ _ | refine Up.setCell ?_ ?_ _ | refine Up.call ?_ (by assumption)) | go_size))⟩
        · obtain ⟨z, hzz⟩ : ∃ z, ([] : List Pt).any nz = z := ⟨_, rfl⟩
          have HZ := Lib.hid hzz
          have HN := Lib.hid hn
          have HQ := Lib.hid (show soundSeg L ⟨3, (x0, y0), (x1, y1), (x2, y2)⟩ = (f && (g && !z)) by unfold soundSeg; rw [HF.out, hn]; simp only [Seg.pts]; rw [HG.out, ← hzz]; rfl)
          clear hzz hn hp
          cases f
          · go_wp2_with (first
              | (go_at_call 112; ((with_reducible refine (points_calls 3 _).mono ?_); rintro E w1 ⟨rfl, rfl⟩; rw [HN.out]))
              | (go_at_call 113; ((with_reducible refine (follows_calls 3 L _).mono ?_); rintro E w2 ⟨rfl, rfl⟩; rw [HF.out])))
            go_ret
            exact ⟨by rw [HB.out (by rw [HQ.out]; rfl)]; rfl, by (repeat' (first | (with_reducible first | exact Up.refl _ | assumption | refine Up.alloc ?_ _ | refine Up.drew ?_ | refine Up.drewN ?_ _ | refine Up.setCell ?_ ?_ _ | refine Up.call ?_ (by assumption)) | go_size))⟩
          · cases g
            · go_wp2_with (first
                | (go_at_call 112; ((with_reducible refine (points_calls 3 _).mono ?_); rintro E w1 ⟨rfl, rfl⟩; rw [HN.out]))
                | (go_at_call 113; ((with_reducible refine (follows_calls 3 L _).mono ?_); rintro E w2 ⟨rfl, rfl⟩; rw [HF.out]))
                | (go_at_call 114; ((with_reducible refine (fits_calls3 [(x0, y0), (x1, y1), (x2, y2)] 3 wr.heap.size 1 3 _ rfl (by decide) (segPts0 (show Row _ wr.heap.size #[.int .i64 3, .int .i64 x0, .int .i64 y0, .int .i64 x1, .int .i64 y1, .int .i64 x2, .int .i64 y2] from by (repeat' (with_reducible first | assumption | (refine Row.at _ _ ?_; (simp; done)) | refine Row.alloc ?_ _ | refine Row.drew ?_ | refine Row.drewN ?_ _ | refine Row.other ?_ (by first | (simp; done) | (simp; omega) | omega) _ | refine Row.up ?_ (by assumption) | refine Row.chg ?_ (by assumption) (by first | (simp; done) | (simp; omega)))))) (by simp)).mono ?_); rintro E w3 ⟨rfl, hu3⟩; rw [HG.out]; have hz3 := hu3.size; simp at hz3; have r3 : Row w3 wr.heap.size #[.int .i64 3, .int .i64 x0, .int .i64 y0, .int .i64 x1, .int .i64 y1, .int .i64 x2, .int .i64 y2] := Row.up (by (repeat' (with_reducible first | assumption | (refine Row.at _ _ ?_; (simp; done)) | refine Row.alloc ?_ _ | refine Row.drew ?_ | refine Row.drewN ?_ _ | refine Row.other ?_ (by first | (simp; done) | (simp; omega) | omega) _ | refine Row.up ?_ (by assumption) | refine Row.chg ?_ (by assumption) (by first | (simp; done) | (simp; omega))))) hu3; have l3 := r3.lt; have k3 : w3.cell? ⟨wr.heap.size, 0, none⟩ = some (.int .i64 3) := r3.cell 0 rfl)))
              go_ret
              exact ⟨by rw [HB.out (by rw [HQ.out]; rfl)]; rfl, by (repeat' (first | (with_reducible first | exact Up.refl _ | assumption | refine Up.alloc ?_ _ | refine Up.drew ?_ | refine Up.drewN ?_ _ | refine Up.setCell ?_ ?_ _ | refine Up.call ?_ (by assumption)) | go_size))⟩
            · cases z
              · go_wp2_with (first
                  | (go_at_call 112; ((with_reducible refine (points_calls 3 _).mono ?_); rintro E w1 ⟨rfl, rfl⟩; rw [HN.out]))
                  | (go_at_call 113; ((with_reducible refine (follows_calls 3 L _).mono ?_); rintro E w2 ⟨rfl, rfl⟩; rw [HF.out]))
                  | (go_at_call 114; ((with_reducible refine (fits_calls3 [(x0, y0), (x1, y1), (x2, y2)] 3 wr.heap.size 1 3 _ rfl (by decide) (segPts0 (show Row _ wr.heap.size #[.int .i64 3, .int .i64 x0, .int .i64 y0, .int .i64 x1, .int .i64 y1, .int .i64 x2, .int .i64 y2] from by (repeat' (with_reducible first | assumption | (refine Row.at _ _ ?_; (simp; done)) | refine Row.alloc ?_ _ | refine Row.drew ?_ | refine Row.drewN ?_ _ | refine Row.other ?_ (by first | (simp; done) | (simp; omega) | omega) _ | refine Row.up ?_ (by assumption) | refine Row.chg ?_ (by assumption) (by first | (simp; done) | (simp; omega)))))) (by simp)).mono ?_); rintro E w3 ⟨rfl, hu3⟩; rw [HG.out]; have hz3 := hu3.size; simp at hz3; have r3 : Row w3 wr.heap.size #[.int .i64 3, .int .i64 x0, .int .i64 y0, .int .i64 x1, .int .i64 y1, .int .i64 x2, .int .i64 y2] := Row.up (by (repeat' (with_reducible first | assumption | (refine Row.at _ _ ?_; (simp; done)) | refine Row.alloc ?_ _ | refine Row.drew ?_ | refine Row.drewN ?_ _ | refine Row.other ?_ (by first | (simp; done) | (simp; omega) | omega) _ | refine Row.up ?_ (by assumption) | refine Row.chg ?_ (by assumption) (by first | (simp; done) | (simp; omega))))) hu3; have l3 := r3.lt; have k3 : w3.cell? ⟨wr.heap.size, 0, none⟩ = some (.int .i64 3) := r3.cell 0 rfl))
                  | (go_at_call 115; ((with_reducible refine (contains_sound3 [] 0 _ _ _ _ rfl (by decide) (segPts3 _) (by simpa using l3)).mono ?_); rintro E w4 ⟨rfl, hu4⟩; rw [HZ.out]; have hz4 := hu4.size; have r4 : Row w4 wr.heap.size #[.int .i64 3, .int .i64 x0, .int .i64 y0, .int .i64 x1, .int .i64 y1, .int .i64 x2, .int .i64 y2] := Row.up (by (repeat' (with_reducible first | assumption | (refine Row.at _ _ ?_; (simp; done)) | refine Row.alloc ?_ _ | refine Row.drew ?_ | refine Row.drewN ?_ _ | refine Row.other ?_ (by first | (simp; done) | (simp; omega) | omega) _ | refine Row.up ?_ (by assumption) | refine Row.chg ?_ (by assumption) (by first | (simp; done) | (simp; omega))))) hu4; have k4 : w4.cell? ⟨wr.heap.size, 0, none⟩ = some (.int .i64 3) := r4.cell 0 rfl)))
                go_roundw
                case rel => exact ⟨k + 1, by omega, by rw [HK.out], by go_num, HT.out (by rw [HQ.out]; rfl), by (repeat' (first | (with_reducible first | exact Up.refl _ | assumption | refine Up.alloc ?_ _ | refine Up.drew ?_ | refine Up.drewN ?_ _ | refine Up.setCell ?_ ?_ _ | refine Up.call ?_ (by assumption)) | go_size))⟩
                case measure => simp [intOf]; omega
              · go_wp2_with (first
                  | (go_at_call 112; ((with_reducible refine (points_calls 3 _).mono ?_); rintro E w1 ⟨rfl, rfl⟩; rw [HN.out]))
                  | (go_at_call 113; ((with_reducible refine (follows_calls 3 L _).mono ?_); rintro E w2 ⟨rfl, rfl⟩; rw [HF.out]))
                  | (go_at_call 114; ((with_reducible refine (fits_calls3 [(x0, y0), (x1, y1), (x2, y2)] 3 wr.heap.size 1 3 _ rfl (by decide) (segPts0 (show Row _ wr.heap.size #[.int .i64 3, .int .i64 x0, .int .i64 y0, .int .i64 x1, .int .i64 y1, .int .i64 x2, .int .i64 y2] from by (repeat' (with_reducible first | assumption | (refine Row.at _ _ ?_; (simp; done)) | refine Row.alloc ?_ _ | refine Row.drew ?_ | refine Row.drewN ?_ _ | refine Row.other ?_ (by first | (simp; done) | (simp; omega) | omega) _ | refine Row.up ?_ (by assumption) | refine Row.chg ?_ (by assumption) (by first | (simp; done) | (simp; omega)))))) (by simp)).mono ?_); rintro E w3 ⟨rfl, hu3⟩; rw [HG.out]; have hz3 := hu3.size; simp at hz3; have r3 : Row w3 wr.heap.size #[.int .i64 3, .int .i64 x0, .int .i64 y0, .int .i64 x1, .int .i64 y1, .int .i64 x2, .int .i64 y2] := Row.up (by (repeat' (with_reducible first | assumption | (refine Row.at _ _ ?_; (simp; done)) | refine Row.alloc ?_ _ | refine Row.drew ?_ | refine Row.drewN ?_ _ | refine Row.other ?_ (by first | (simp; done) | (simp; omega) | omega) _ | refine Row.up ?_ (by assumption) | refine Row.chg ?_ (by assumption) (by first | (simp; done) | (simp; omega))))) hu3; have l3 := r3.lt; have k3 : w3.cell? ⟨wr.heap.size, 0, none⟩ = some (.int .i64 3) := r3.cell 0 rfl))
                  | (go_at_call 115; ((with_reducible refine (contains_sound3 [] 0 _ _ _ _ rfl (by decide) (segPts3 _) (by simpa using l3)).mono ?_); rintro E w4 ⟨rfl, hu4⟩; rw [HZ.out]; have hz4 := hu4.size; have r4 : Row w4 wr.heap.size #[.int .i64 3, .int .i64 x0, .int .i64 y0, .int .i64 x1, .int .i64 y1, .int .i64 x2, .int .i64 y2] := Row.up (by (repeat' (with_reducible first | assumption | (refine Row.at _ _ ?_; (simp; done)) | refine Row.alloc ?_ _ | refine Row.drew ?_ | refine Row.drewN ?_ _ | refine Row.other ?_ (by first | (simp; done) | (simp; omega) | omega) _ | refine Row.up ?_ (by assumption) | refine Row.chg ?_ (by assumption) (by first | (simp; done) | (simp; omega))))) hu4; have k4 : w4.cell? ⟨wr.heap.size, 0, none⟩ = some (.int .i64 3) := r4.cell 0 rfl)))
                go_ret
                exact ⟨by rw [HB.out (by rw [HQ.out]; rfl)]; rfl, by (repeat' (first | (with_reducible first | exact Up.refl _ | assumption | refine Up.alloc ?_ _ | refine Up.drew ?_ | refine Up.drewN ?_ _ | refine Up.setCell ?_ ?_ _ | refine Up.call ?_ (by assumption)) | go_size))⟩
        · obtain ⟨z, hzz⟩ : ∃ z, [(x0, y0), (x1, y1), (x2, y2)].any nz = z := ⟨_, rfl⟩
          have HZ := Lib.hid hzz
          have HN := Lib.hid hn
          have HQ := Lib.hid (show soundSeg L ⟨4, (x0, y0), (x1, y1), (x2, y2)⟩ = (f && (g && !z)) by unfold soundSeg; rw [HF.out, hn]; simp only [Seg.pts]; rw [HG.out, ← hzz]; rfl)
          clear hzz hn hp
          cases f
          · go_wp2_with (first
              | (go_at_call 112; ((with_reducible refine (points_calls 4 _).mono ?_); rintro E w1 ⟨rfl, rfl⟩; rw [HN.out]))
              | (go_at_call 113; ((with_reducible refine (follows_calls 4 L _).mono ?_); rintro E w2 ⟨rfl, rfl⟩; rw [HF.out])))
            go_ret
            exact ⟨by rw [HB.out (by rw [HQ.out]; rfl)]; rfl, by (repeat' (first | (with_reducible first | exact Up.refl _ | assumption | refine Up.alloc ?_ _ | refine Up.drew ?_ | refine Up.drewN ?_ _ | refine Up.setCell ?_ ?_ _ | refine Up.call ?_ (by assumption)) | go_size))⟩
          · cases g
            · go_wp2_with (first
                | (go_at_call 112; ((with_reducible refine (points_calls 4 _).mono ?_); rintro E w1 ⟨rfl, rfl⟩; rw [HN.out]))
                | (go_at_call 113; ((with_reducible refine (follows_calls 4 L _).mono ?_); rintro E w2 ⟨rfl, rfl⟩; rw [HF.out]))
                | (go_at_call 114; ((with_reducible refine (fits_calls3 [(x0, y0), (x1, y1), (x2, y2)] 3 wr.heap.size 1 3 _ rfl (by decide) (segPts0 (show Row _ wr.heap.size #[.int .i64 4, .int .i64 x0, .int .i64 y0, .int .i64 x1, .int .i64 y1, .int .i64 x2, .int .i64 y2] from by (repeat' (with_reducible first | assumption | (refine Row.at _ _ ?_; (simp; done)) | refine Row.alloc ?_ _ | refine Row.drew ?_ | refine Row.drewN ?_ _ | refine Row.other ?_ (by first | (simp; done) | (simp; omega) | omega) _ | refine Row.up ?_ (by assumption) | refine Row.chg ?_ (by assumption) (by first | (simp; done) | (simp; omega)))))) (by simp)).mono ?_); rintro E w3 ⟨rfl, hu3⟩; rw [HG.out]; have hz3 := hu3.size; simp at hz3; have r3 : Row w3 wr.heap.size #[.int .i64 4, .int .i64 x0, .int .i64 y0, .int .i64 x1, .int .i64 y1, .int .i64 x2, .int .i64 y2] := Row.up (by (repeat' (with_reducible first | assumption | (refine Row.at _ _ ?_; (simp; done)) | refine Row.alloc ?_ _ | refine Row.drew ?_ | refine Row.drewN ?_ _ | refine Row.other ?_ (by first | (simp; done) | (simp; omega) | omega) _ | refine Row.up ?_ (by assumption) | refine Row.chg ?_ (by assumption) (by first | (simp; done) | (simp; omega))))) hu3; have l3 := r3.lt; have k3 : w3.cell? ⟨wr.heap.size, 0, none⟩ = some (.int .i64 4) := r3.cell 0 rfl)))
              go_ret
              exact ⟨by rw [HB.out (by rw [HQ.out]; rfl)]; rfl, by (repeat' (first | (with_reducible first | exact Up.refl _ | assumption | refine Up.alloc ?_ _ | refine Up.drew ?_ | refine Up.drewN ?_ _ | refine Up.setCell ?_ ?_ _ | refine Up.call ?_ (by assumption)) | go_size))⟩
            · cases z
              · go_wp2_with (first
                  | (go_at_call 112; ((with_reducible refine (points_calls 4 _).mono ?_); rintro E w1 ⟨rfl, rfl⟩; rw [HN.out]))
                  | (go_at_call 113; ((with_reducible refine (follows_calls 4 L _).mono ?_); rintro E w2 ⟨rfl, rfl⟩; rw [HF.out]))
                  | (go_at_call 114; ((with_reducible refine (fits_calls3 [(x0, y0), (x1, y1), (x2, y2)] 3 wr.heap.size 1 3 _ rfl (by decide) (segPts0 (show Row _ wr.heap.size #[.int .i64 4, .int .i64 x0, .int .i64 y0, .int .i64 x1, .int .i64 y1, .int .i64 x2, .int .i64 y2] from by (repeat' (with_reducible first | assumption | (refine Row.at _ _ ?_; (simp; done)) | refine Row.alloc ?_ _ | refine Row.drew ?_ | refine Row.drewN ?_ _ | refine Row.other ?_ (by first | (simp; done) | (simp; omega) | omega) _ | refine Row.up ?_ (by assumption) | refine Row.chg ?_ (by assumption) (by first | (simp; done) | (simp; omega)))))) (by simp)).mono ?_); rintro E w3 ⟨rfl, hu3⟩; rw [HG.out]; have hz3 := hu3.size; simp at hz3; have r3 : Row w3 wr.heap.size #[.int .i64 4, .int .i64 x0, .int .i64 y0, .int .i64 x1, .int .i64 y1, .int .i64 x2, .int .i64 y2] := Row.up (by (repeat' (with_reducible first | assumption | (refine Row.at _ _ ?_; (simp; done)) | refine Row.alloc ?_ _ | refine Row.drew ?_ | refine Row.drewN ?_ _ | refine Row.other ?_ (by first | (simp; done) | (simp; omega) | omega) _ | refine Row.up ?_ (by assumption) | refine Row.chg ?_ (by assumption) (by first | (simp; done) | (simp; omega))))) hu3; have l3 := r3.lt; have k3 : w3.cell? ⟨wr.heap.size, 0, none⟩ = some (.int .i64 4) := r3.cell 0 rfl))
                  | (go_at_call 115; ((with_reducible refine (contains_sound3 [(x0, y0), (x1, y1), (x2, y2)] 3 _ _ _ _ rfl (by decide) (segPts0 r3) (by simpa using l3)).mono ?_); rintro E w4 ⟨rfl, hu4⟩; rw [HZ.out]; have hz4 := hu4.size; have r4 : Row w4 wr.heap.size #[.int .i64 4, .int .i64 x0, .int .i64 y0, .int .i64 x1, .int .i64 y1, .int .i64 x2, .int .i64 y2] := Row.up (by (repeat' (with_reducible first | assumption | (refine Row.at _ _ ?_; (simp; done)) | refine Row.alloc ?_ _ | refine Row.drew ?_ | refine Row.drewN ?_ _ | refine Row.other ?_ (by first | (simp; done) | (simp; omega) | omega) _ | refine Row.up ?_ (by assumption) | refine Row.chg ?_ (by assumption) (by first | (simp; done) | (simp; omega))))) hu4; have k4 : w4.cell? ⟨wr.heap.size, 0, none⟩ = some (.int .i64 4) := r4.cell 0 rfl)))
                go_roundw
                case rel => exact ⟨k + 1, by omega, by rw [HK.out], by go_num, HT.out (by rw [HQ.out]; rfl), by (repeat' (first | (with_reducible first | exact Up.refl _ | assumption | refine Up.alloc ?_ _ | refine Up.drew ?_ | refine Up.drewN ?_ _ | refine Up.setCell ?_ ?_ _ | refine Up.call ?_ (by assumption)) | go_size))⟩
                case measure => simp [intOf]; omega
              · go_wp2_with (first
                  | (go_at_call 112; ((with_reducible refine (points_calls 4 _).mono ?_); rintro E w1 ⟨rfl, rfl⟩; rw [HN.out]))
                  | (go_at_call 113; ((with_reducible refine (follows_calls 4 L _).mono ?_); rintro E w2 ⟨rfl, rfl⟩; rw [HF.out]))
                  | (go_at_call 114; ((with_reducible refine (fits_calls3 [(x0, y0), (x1, y1), (x2, y2)] 3 wr.heap.size 1 3 _ rfl (by decide) (segPts0 (show Row _ wr.heap.size #[.int .i64 4, .int .i64 x0, .int .i64 y0, .int .i64 x1, .int .i64 y1, .int .i64 x2, .int .i64 y2] from by (repeat' (with_reducible first | assumption | (refine Row.at _ _ ?_; (simp; done)) | refine Row.alloc ?_ _ | refine Row.drew ?_ | refine Row.drewN ?_ _ | refine Row.other ?_ (by first | (simp; done) | (simp; omega) | omega) _ | refine Row.up ?_ (by assumption) | refine Row.chg ?_ (by assumption) (by first | (simp; done) | (simp; omega)))))) (by simp)).mono ?_); rintro E w3 ⟨rfl, hu3⟩; rw [HG.out]; have hz3 := hu3.size; simp at hz3; have r3 : Row w3 wr.heap.size #[.int .i64 4, .int .i64 x0, .int .i64 y0, .int .i64 x1, .int .i64 y1, .int .i64 x2, .int .i64 y2] := Row.up (by (repeat' (with_reducible first | assumption | (refine Row.at _ _ ?_; (simp; done)) | refine Row.alloc ?_ _ | refine Row.drew ?_ | refine Row.drewN ?_ _ | refine Row.other ?_ (by first | (simp; done) | (simp; omega) | omega) _ | refine Row.up ?_ (by assumption) | refine Row.chg ?_ (by assumption) (by first | (simp; done) | (simp; omega))))) hu3; have l3 := r3.lt; have k3 : w3.cell? ⟨wr.heap.size, 0, none⟩ = some (.int .i64 4) := r3.cell 0 rfl))
                  | (go_at_call 115; ((with_reducible refine (contains_sound3 [(x0, y0), (x1, y1), (x2, y2)] 3 _ _ _ _ rfl (by decide) (segPts0 r3) (by simpa using l3)).mono ?_); rintro E w4 ⟨rfl, hu4⟩; rw [HZ.out]; have hz4 := hu4.size; have r4 : Row w4 wr.heap.size #[.int .i64 4, .int .i64 x0, .int .i64 y0, .int .i64 x1, .int .i64 y1, .int .i64 x2, .int .i64 y2] := Row.up (by (repeat' (with_reducible first | assumption | (refine Row.at _ _ ?_; (simp; done)) | refine Row.alloc ?_ _ | refine Row.drew ?_ | refine Row.drewN ?_ _ | refine Row.other ?_ (by first | (simp; done) | (simp; omega) | omega) _ | refine Row.up ?_ (by assumption) | refine Row.chg ?_ (by assumption) (by first | (simp; done) | (simp; omega))))) hu4; have k4 : w4.cell? ⟨wr.heap.size, 0, none⟩ = some (.int .i64 4) := r4.cell 0 rfl)))
                go_ret
                exact ⟨by rw [HB.out (by rw [HQ.out]; rfl)]; rfl, by (repeat' (first | (with_reducible first | exact Up.refl _ | assumption | refine Up.alloc ?_ _ | refine Up.drew ?_ | refine Up.drewN ?_ _ | refine Up.setCell ?_ ?_ _ | refine Up.call ?_ (by assumption)) | go_size))⟩
      · have hdec : decide (points kk < 0) = true := decide_eq_true (by omega)
        have HQ := Lib.hid (show soundSeg L ⟨kk, (x0, y0), (x1, y1), (x2, y2)⟩ = false by unfold soundSeg; rw [decide_eq_false hp]; rfl)
        clear hp
        obtain ⟨n, hn⟩ : ∃ n, points kk = n := ⟨_, rfl⟩
        have HN := Lib.hid hn
        rw [hn] at hdec
        clear hn
        go_wp2_with (go_at_call 112; ((with_reducible refine (points_calls kk _).mono ?_); rintro E w1 ⟨rfl, rfl⟩; rw [HN.out]))
        go_ret
        exact ⟨by rw [HB.out HQ.out]; rfl, by (repeat' (first | (with_reducible first | exact Up.refl _ | assumption | refine Up.alloc ?_ _ | refine Up.drew ?_ | refine Up.drewN ?_ _ | refine Up.setCell ?_ ?_ _ | refine Up.call ?_ (by assumption)) | go_size))⟩
    · have H := Lib.hid (sound_all hno (by omega) (by omega))
      clear hno
      go_wp2
      go_ret
      exact ⟨by rw [H.out]; rfl, by (repeat' (first | (with_reducible first | exact Up.refl _ | assumption | refine Up.alloc ?_ _ | refine Up.drew ?_ | refine Up.drewN ?_ _ | refine Up.setCell ?_ ?_ _ | refine Up.call ?_ (by assumption)) | go_size))⟩

end Go.Proofs.YtpellcdggaeppaaGreatDoor.Path
