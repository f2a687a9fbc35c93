/- Which items of a page are sound: the plain tests, and paint's functions walked. Its condition: the fonts' names lie as they are laid. -/
import Derived.Test.YteddlahklilncaaDoorPt1
import Derived.Test.YteddlahklilncaaDoorPathW9
import Derived.Test.YteddlahklilncaaDoorPt0
import Derived.Test.YteddlahklilncaaDoorEq6
namespace Go.Proofs.YteddlahklilncaaDoor.Pt
open Go.ChangeShapes Go.WideShapes Go.ChangeAt Go.RowKit
open Go.Proofs.YteddlahklilncaaDoor.FixM (fits)
open Go.Proofs.YteddlahklilncaaDoor.PathM (Seg sound)
open Go.Proofs.YteddlahklilncaaDoor.MatM (M6)
set_option linter.unusedVariables false
set_option linter.unusedSimpArgs false

def sideR (n : Int) : Bool := decide (65536 ≤ n) && (decide (n ≤ 943718400) && (n.tmod 65536 == 0))
def partOk (sp i p : Int) : Bool := !decide (p < 0) && !decide (65536 < p) && (!decide (sp ≤ i) || (p == 0))
def spaceOk (sp : Int) : Bool := (sp == 1) || (sp == 3) || (sp == 4)
def colorR (sp p0 p1 p2 p3 : Int) : Bool := spaceOk sp && (partOk sp 0 p0 && (partOk sp 1 p1 && (partOk sp 2 p2 && partOk sp 3 p3)))
def noneR (wd cp jn mt : Int) (dl : Nat) (ph : Int) : Bool := (wd == 0) && ((cp == 0) && ((jn == 0) && ((mt == 0) && (((dl : Int) == 0) && (ph == 0)))))
def dashOk (n : Int) : Bool := !decide (n < 0) && fits n
def penB (wd cp jn mt : Int) (dl : Nat) (ph : Int) : Bool := decide (wd < 0) || (!fits wd || (decide (cp < 0) || (decide (2 < cp) || (decide (jn < 0) || (decide (2 < jn) || (decide (mt < 65536) || (!fits mt || (decide (ph < 0) || (!fits ph || decide ((11 : Int) < (dl : Int)))))))))))
def penR (wd cp jn mt : Int) (ds : List Int) (ph : Int) : Bool := !penB wd cp jn mt ds.length ph && ds.all dashOk && ((ds.length == 0) || decide (0 < ds.sum))
def clipOk (c : Clip) : Bool := !(c.l.length == 0) && sound c.l
def clipsR (l : List Clip) : Bool := decide (l.length ≤ 16) && l.all clipOk
def lettersR (fn : Int) (m : M6) (bl : Nat) : Bool := decide (0 ≤ fn ∧ fn < 14) && (decide (1 ≤ bl) && (decide (bl ≤ 65535) && !((lM m).any fun n => !fits n)))
def m0 (m : M6) : Bool := all6 m.a m.b m.c m.d m.x m.y 0 0 0 0 0 0
def itemB (tC tK tL tN tP tS tM : Bool) (k fn : Int) (pl bl : Nat) : Bool :=
  if tC && tK then
    if k = 4 then tL && (((pl : Int) == 0) && tN)
    else if (fn != 0) || (!tM || (decide (0 < bl) || (((pl : Int) == 0) || !tS))) then false
    else if k = 1 ∨ k = 2 then tN
    else if k = 3 then tP
    else false
  else false
def itemR (i : Item) : Bool := itemB (colorR i.sp i.p0 i.p1 i.p2 i.p3) (clipsR i.cl) (lettersR i.fn i.m i.bs.length) (noneR i.wd i.cap i.jn i.mt i.ds.length i.ph) (penR i.wd i.cap i.jn i.mt i.ds i.ph) (sound i.l) (m0 i.m) i.k i.fn i.l.length i.bs.length

theorem side_calls (n : Int) (w : World) : Calls Tryd.prog 18 #[.int .i64 n] w fun E w' => E = .returned (.bool (sideR n)) ∧ Up w w' := by
  obtain ⟨b_h1, h1⟩ : ∃ b, (decide (65536 ≤ n)) = b := ⟨_, rfl⟩
  cases b_h1
  · go_enter Tryd.func18, Tryd.ntmps18
    go_wp2
    go_ret
    exact ⟨by simp [sideR, h1], by (repeat' (first | (with_reducible exact Up.refl _) | (with_reducible assumption) | (with_reducible refine Up.alloc ?_ _) | (with_reducible refine Up.drew ?_) | (with_reducible refine Up.drewN ?_ _) | (with_reducible refine Up.setCell ?_ ?_ _) | (with_reducible refine Up.call ?_ (by with_reducible assumption)) | go_size))⟩
  obtain ⟨b_h2, h2⟩ : ∃ b, (decide (n ≤ 943718400)) = b := ⟨_, rfl⟩
  cases b_h2
  · go_enter Tryd.func18, Tryd.ntmps18
    go_wp2
    go_ret
    exact ⟨by simp [sideR, h1, h2], by (repeat' (first | (with_reducible exact Up.refl _) | (with_reducible assumption) | (with_reducible refine Up.alloc ?_ _) | (with_reducible refine Up.drew ?_) | (with_reducible refine Up.drewN ?_ _) | (with_reducible refine Up.setCell ?_ ?_ _) | (with_reducible refine Up.call ?_ (by with_reducible assumption)) | go_size))⟩
  obtain ⟨b_h3, h3⟩ : ∃ b, (n.tmod 65536 == 0) = b := ⟨_, rfl⟩
  cases b_h3
  · go_enter Tryd.func18, Tryd.ntmps18
    go_wp2
    go_ret
    exact ⟨by simp [sideR, h1, h2, h3], by (repeat' (first | (with_reducible exact Up.refl _) | (with_reducible assumption) | (with_reducible refine Up.alloc ?_ _) | (with_reducible refine Up.drew ?_) | (with_reducible refine Up.drewN ?_ _) | (with_reducible refine Up.setCell ?_ ?_ _) | (with_reducible refine Up.call ?_ (by with_reducible assumption)) | go_size))⟩
  go_enter Tryd.func18, Tryd.ntmps18
  go_wp2
  go_ret
  exact ⟨by simp [sideR, h1, h2, h3], by (repeat' (first | (with_reducible exact Up.refl _) | (with_reducible assumption) | (with_reducible refine Up.alloc ?_ _) | (with_reducible refine Up.drew ?_) | (with_reducible refine Up.drewN ?_ _) | (with_reducible refine Up.setCell ?_ ?_ _) | (with_reducible refine Up.call ?_ (by with_reducible assumption)) | go_size))⟩

set_option maxRecDepth 8000 in
theorem none_calls (wd cp jn mt ph : Int) (da : Option Addr) (dl dc : Nat) (w : World) : Calls Tryd.prog 36 #[.agg #[.int .i64 wd, .int .i64 cp, .int .i64 jn, .int .i64 mt, .slice da dl dc, .int .i64 ph]] w fun E w' => E = .returned (.bool (noneR wd cp jn mt dl ph)) ∧ Up w w' := by
  obtain ⟨b_h1, h1⟩ : ∃ b, (wd == 0) = b := ⟨_, rfl⟩
  cases b_h1
  · go_enter Tryd.func36, Tryd.ntmps36
    go_wp2
    go_ret
    exact ⟨by simp [noneR, h1], by (repeat' (first | (with_reducible exact Up.refl _) | (with_reducible assumption) | (with_reducible refine Up.alloc ?_ _) | (with_reducible refine Up.drew ?_) | (with_reducible refine Up.drewN ?_ _) | (with_reducible refine Up.setCell ?_ ?_ _) | (with_reducible refine Up.call ?_ (by with_reducible assumption)) | go_size))⟩
  obtain ⟨b_h2, h2⟩ : ∃ b, (cp == 0) = b := ⟨_, rfl⟩
  cases b_h2
  · go_enter Tryd.func36, Tryd.ntmps36
    go_wp2
    go_ret
    exact ⟨by simp [noneR, h1, h2], by (repeat' (first | (with_reducible exact Up.refl _) | (with_reducible assumption) | (with_reducible refine Up.alloc ?_ _) | (with_reducible refine Up.drew ?_) | (with_reducible refine Up.drewN ?_ _) | (with_reducible refine Up.setCell ?_ ?_ _) | (with_reducible refine Up.call ?_ (by with_reducible assumption)) | go_size))⟩
  obtain ⟨b_h3, h3⟩ : ∃ b, (jn == 0) = b := ⟨_, rfl⟩
  cases b_h3
  · go_enter Tryd.func36, Tryd.ntmps36
    go_wp2
    go_ret
    exact ⟨by simp [noneR, h1, h2, h3], by (repeat' (first | (with_reducible exact Up.refl _) | (with_reducible assumption) | (with_reducible refine Up.alloc ?_ _) | (with_reducible refine Up.drew ?_) | (with_reducible refine Up.drewN ?_ _) | (with_reducible refine Up.setCell ?_ ?_ _) | (with_reducible refine Up.call ?_ (by with_reducible assumption)) | go_size))⟩
  obtain ⟨b_h4, h4⟩ : ∃ b, (mt == 0) = b := ⟨_, rfl⟩
  cases b_h4
  · go_enter Tryd.func36, Tryd.ntmps36
    go_wp2
    go_ret
    exact ⟨by simp [noneR, h1, h2, h3, h4], by (repeat' (first | (with_reducible exact Up.refl _) | (with_reducible assumption) | (with_reducible refine Up.alloc ?_ _) | (with_reducible refine Up.drew ?_) | (with_reducible refine Up.drewN ?_ _) | (with_reducible refine Up.setCell ?_ ?_ _) | (with_reducible refine Up.call ?_ (by with_reducible assumption)) | go_size))⟩
  obtain ⟨b_h5, h5⟩ : ∃ b, ((dl : Int) == 0) = b := ⟨_, rfl⟩
  cases b_h5
  · go_enter Tryd.func36, Tryd.ntmps36
    go_wp2
    go_ret
    exact ⟨by simp [noneR, h1, h2, h3, h4, h5], by (repeat' (first | (with_reducible exact Up.refl _) | (with_reducible assumption) | (with_reducible refine Up.alloc ?_ _) | (with_reducible refine Up.drew ?_) | (with_reducible refine Up.drewN ?_ _) | (with_reducible refine Up.setCell ?_ ?_ _) | (with_reducible refine Up.call ?_ (by with_reducible assumption)) | go_size))⟩
  obtain ⟨b_h6, h6⟩ : ∃ b, (ph == 0) = b := ⟨_, rfl⟩
  cases b_h6
  · go_enter Tryd.func36, Tryd.ntmps36
    go_wp2
    go_ret
    exact ⟨by simp [noneR, h1, h2, h3, h4, h5, h6], by (repeat' (first | (with_reducible exact Up.refl _) | (with_reducible assumption) | (with_reducible refine Up.alloc ?_ _) | (with_reducible refine Up.drew ?_) | (with_reducible refine Up.drewN ?_ _) | (with_reducible refine Up.setCell ?_ ?_ _) | (with_reducible refine Up.call ?_ (by with_reducible assumption)) | go_size))⟩
  go_enter Tryd.func36, Tryd.ntmps36
  go_wp2
  go_ret
  exact ⟨by simp [noneR, h1, h2, h3, h4, h5, h6], by (repeat' (first | (with_reducible exact Up.refl _) | (with_reducible assumption) | (with_reducible refine Up.alloc ?_ _) | (with_reducible refine Up.drew ?_) | (with_reducible refine Up.drewN ?_ _) | (with_reducible refine Up.setCell ?_ ?_ _) | (with_reducible refine Up.call ?_ (by with_reducible assumption)) | go_size))⟩

set_option maxRecDepth 8000 in
set_option maxHeartbeats 2000000 in
theorem color_calls (sp p0 p1 p2 p3 : Int) (w : World) : Calls Tryd.prog 33 #[.agg #[.int .i64 sp, .int .i64 p0, .int .i64 p1, .int .i64 p2, .int .i64 p3]] w fun E w' => E = .returned (.bool (colorR sp p0 p1 p2 p3)) ∧ Up w w' := by
  have x0 : ∀ W : World, (Instr.index 26 (.agg #[.int .i64 p0, .int .i64 p1, .int .i64 p2, .int .i64 p3]) (.int .i64 0)).run Tryd.prog W = .ok (.int .i64 p0) W := fun W => by kernel_rfl
  have x1 : ∀ W : World, (Instr.index 26 (.agg #[.int .i64 p0, .int .i64 p1, .int .i64 p2, .int .i64 p3]) (.int .i64 1)).run Tryd.prog W = .ok (.int .i64 p1) W := fun W => by kernel_rfl
  have x2 : ∀ W : World, (Instr.index 26 (.agg #[.int .i64 p0, .int .i64 p1, .int .i64 p2, .int .i64 p3]) (.int .i64 2)).run Tryd.prog W = .ok (.int .i64 p2) W := fun W => by kernel_rfl
  have x3 : ∀ W : World, (Instr.index 26 (.agg #[.int .i64 p0, .int .i64 p1, .int .i64 p2, .int .i64 p3]) (.int .i64 3)).run Tryd.prog W = .ok (.int .i64 p3) W := fun W => by kernel_rfl
  by_cases hs : spaceOk sp = true
  rotate_left
  · have hs : spaceOk sp = false := by simpa using hs
    have H := Lib.hid (show colorR sp p0 p1 p2 p3 = false by unfold colorR; rw [hs]; rfl)
    unfold spaceOk at hs
    simp only [Bool.or_eq_false_iff] at hs
    obtain ⟨⟨d1, d2⟩, d3⟩ := hs
    have e1 : (sp != 1) = true := by simp [bne, d1]
    have e2 : (sp != 3) = true := by simp [bne, d2]
    have e3 : (sp != 4) = true := by simp [bne, d3]
    clear d1 d2 d3
    go_enter Tryd.func33, Tryd.ntmps33
    go_wp2
    go_ret
    exact ⟨by rw [H.out]; rfl, by (repeat' (first | (with_reducible exact Up.refl _) | (with_reducible assumption) | (with_reducible refine Up.alloc ?_ _) | (with_reducible refine Up.drew ?_) | (with_reducible refine Up.drewN ?_ _) | (with_reducible refine Up.setCell ?_ ?_ _) | (with_reducible refine Up.call ?_ (by with_reducible assumption)) | go_size))⟩
  have HS := Lib.hid hs
  have hsp : sp = 1 ∨ sp = 3 ∨ sp = 4 := by simpa [spaceOk, or_assoc] using hs
  clear hs
  have key : ∀ k : Nat, k < 5 → True := fun _ _ => trivial
  rcases hsp with rfl | rfl | rfl
  · go_enter Tryd.func33, Tryd.ntmps33
    go_wp2
    go_loop [20] (fun s20 => ∃ k : Nat, k ≤ 4 ∧ s20 = .int .i64 k ∧ Hid (0 < k → partOk 1 0 p0 = true) ∧ Hid (1 < k → partOk 1 1 p1 = true) ∧ Hid (2 < k → partOk 1 2 p2 = true) ∧ Hid (3 < k → partOk 1 3 p3 = true)) (fun s20 => 4 - (intOf s20).toNat)
    case atStart => exact ⟨0, by decide, rfl, Lib.hid (fun h => absurd h (by decide)), Lib.hid (fun h => absurd h (by decide)), Lib.hid (fun h => absurd h (by decide)), Lib.hid (fun h => absurd h (by decide))⟩
    case round =>
      obtain ⟨k, hk, rfl, HO0, HO1, HO2, HO3⟩ := hrel
      rcases (show k = 0 ∨ k = 1 ∨ k = 2 ∨ k = 3 ∨ k = 4 by omega) with rfl | rfl | rfl | rfl | rfl
      · obtain ⟨b1, q1⟩ : ∃ b, decide (p0 < 0) = b := ⟨_, rfl⟩
        cases b1
        rotate_left
        · have H := Lib.hid (show colorR 1 p0 p1 p2 p3 = false by have h1 : partOk 1 0 p0 = false := (by simp [partOk, q1]); simp [colorR, h1])
          go_wp2
          go_ret
          exact ⟨by rw [H.out]; rfl, by (repeat' (first | (with_reducible exact Up.refl _) | (with_reducible assumption) | (with_reducible refine Up.alloc ?_ _) | (with_reducible refine Up.drew ?_) | (with_reducible refine Up.drewN ?_ _) | (with_reducible refine Up.setCell ?_ ?_ _) | (with_reducible refine Up.call ?_ (by with_reducible assumption)) | go_size))⟩
        obtain ⟨b2, q2⟩ : ∃ b, decide (65536 < p0) = b := ⟨_, rfl⟩
        cases b2
        rotate_left
        · have H := Lib.hid (show colorR 1 p0 p1 p2 p3 = false by have h1 : partOk 1 0 p0 = false := (by simp [partOk, q1, q2]); simp [colorR, h1])
          go_wp2
          go_ret
          exact ⟨by rw [H.out]; rfl, by (repeat' (first | (with_reducible exact Up.refl _) | (with_reducible assumption) | (with_reducible refine Up.alloc ?_ _) | (with_reducible refine Up.drew ?_) | (with_reducible refine Up.drewN ?_ _) | (with_reducible refine Up.setCell ?_ ?_ _) | (with_reducible refine Up.call ?_ (by with_reducible assumption)) | go_size))⟩
        have HO0 := Lib.hid (show partOk 1 0 p0 = true by simp [partOk, q1, q2])
        go_wp2
        go_roundw
        case rel => exact ⟨1, by decide, by go_num, Lib.hid (fun _ => HO0.out), Lib.hid (fun h => absurd h (by decide)), Lib.hid (fun h => absurd h (by decide)), Lib.hid (fun h => absurd h (by decide))⟩
        case measure => simp [intOf]
      · obtain ⟨b1, q1⟩ : ∃ b, decide (p1 < 0) = b := ⟨_, rfl⟩
        cases b1
        rotate_left
        · have H := Lib.hid (show colorR 1 p0 p1 p2 p3 = false by have h1 : partOk 1 1 p1 = false := (by simp [partOk, q1]); simp [colorR, h1])
          go_wp2
          go_ret
          exact ⟨by rw [H.out]; rfl, by (repeat' (first | (with_reducible exact Up.refl _) | (with_reducible assumption) | (with_reducible refine Up.alloc ?_ _) | (with_reducible refine Up.drew ?_) | (with_reducible refine Up.drewN ?_ _) | (with_reducible refine Up.setCell ?_ ?_ _) | (with_reducible refine Up.call ?_ (by with_reducible assumption)) | go_size))⟩
        obtain ⟨b2, q2⟩ : ∃ b, decide (65536 < p1) = b := ⟨_, rfl⟩
        cases b2
        rotate_left
        · have H := Lib.hid (show colorR 1 p0 p1 p2 p3 = false by have h1 : partOk 1 1 p1 = false := (by simp [partOk, q1, q2]); simp [colorR, h1])
          go_wp2
          go_ret
          exact ⟨by rw [H.out]; rfl, by (repeat' (first | (with_reducible exact Up.refl _) | (with_reducible assumption) | (with_reducible refine Up.alloc ?_ _) | (with_reducible refine Up.drew ?_) | (with_reducible refine Up.drewN ?_ _) | (with_reducible refine Up.setCell ?_ ?_ _) | (with_reducible refine Up.call ?_ (by with_reducible assumption)) | go_size))⟩
        obtain ⟨b3, q3⟩ : ∃ b, (p1 == 0) = b := ⟨_, rfl⟩
        cases b3
        · have H := Lib.hid (show colorR 1 p0 p1 p2 p3 = false by have h1 : partOk 1 1 p1 = false := (by simp [partOk, q1, q2, q3]); simp [colorR, h1])
          go_wp2
          go_ret
          exact ⟨by rw [H.out]; rfl, by (repeat' (first | (with_reducible exact Up.refl _) | (with_reducible assumption) | (with_reducible refine Up.alloc ?_ _) | (with_reducible refine Up.drew ?_) | (with_reducible refine Up.drewN ?_ _) | (with_reducible refine Up.setCell ?_ ?_ _) | (with_reducible refine Up.call ?_ (by with_reducible assumption)) | go_size))⟩
        have HO1 := Lib.hid (show partOk 1 1 p1 = true by simp [partOk, q1, q2, q3])
        go_wp2
        go_roundw
        case rel => exact ⟨2, by decide, by go_num, Lib.hid (fun _ => HO0.out (by decide)), Lib.hid (fun _ => HO1.out), Lib.hid (fun h => absurd h (by decide)), Lib.hid (fun h => absurd h (by decide))⟩
        case measure => simp [intOf]
      · obtain ⟨b1, q1⟩ : ∃ b, decide (p2 < 0) = b := ⟨_, rfl⟩
        cases b1
        rotate_left
        · have H := Lib.hid (show colorR 1 p0 p1 p2 p3 = false by have h1 : partOk 1 2 p2 = false := (by simp [partOk, q1]); simp [colorR, h1])
          go_wp2
          go_ret
          exact ⟨by rw [H.out]; rfl, by (repeat' (first | (with_reducible exact Up.refl _) | (with_reducible assumption) | (with_reducible refine Up.alloc ?_ _) | (with_reducible refine Up.drew ?_) | (with_reducible refine Up.drewN ?_ _) | (with_reducible refine Up.setCell ?_ ?_ _) | (with_reducible refine Up.call ?_ (by with_reducible assumption)) | go_size))⟩
        obtain ⟨b2, q2⟩ : ∃ b, decide (65536 < p2) = b := ⟨_, rfl⟩
        cases b2
        rotate_left
        · have H := Lib.hid (show colorR 1 p0 p1 p2 p3 = false by have h1 : partOk 1 2 p2 = false := (by simp [partOk, q1, q2]); simp [colorR, h1])
          go_wp2
          go_ret
          exact ⟨by rw [H.out]; rfl, by (repeat' (first | (with_reducible exact Up.refl _) | (with_reducible assumption) | (with_reducible refine Up.alloc ?_ _) | (with_reducible refine Up.drew ?_) | (with_reducible refine Up.drewN ?_ _) | (with_reducible refine Up.setCell ?_ ?_ _) | (with_reducible refine Up.call ?_ (by with_reducible assumption)) | go_size))⟩
        obtain ⟨b3, q3⟩ : ∃ b, (p2 == 0) = b := ⟨_, rfl⟩
        cases b3
        · have H := Lib.hid (show colorR 1 p0 p1 p2 p3 = false by have h1 : partOk 1 2 p2 = false := (by simp [partOk, q1, q2, q3]); simp [colorR, h1])
          go_wp2
          go_ret
          exact ⟨by rw [H.out]; rfl, by (repeat' (first | (with_reducible exact Up.refl _) | (with_reducible assumption) | (with_reducible refine Up.alloc ?_ _) | (with_reducible refine Up.drew ?_) | (with_reducible refine Up.drewN ?_ _) | (with_reducible refine Up.setCell ?_ ?_ _) | (with_reducible refine Up.call ?_ (by with_reducible assumption)) | go_size))⟩
        have HO2 := Lib.hid (show partOk 1 2 p2 = true by simp [partOk, q1, q2, q3])
        go_wp2
        go_roundw
        case rel => exact ⟨3, by decide, by go_num, Lib.hid (fun _ => HO0.out (by decide)), Lib.hid (fun _ => HO1.out (by decide)), Lib.hid (fun _ => HO2.out), Lib.hid (fun h => absurd h (by decide))⟩
        case measure => simp [intOf]
      · obtain ⟨b1, q1⟩ : ∃ b, decide (p3 < 0) = b := ⟨_, rfl⟩
        cases b1
        rotate_left
        · have H := Lib.hid (show colorR 1 p0 p1 p2 p3 = false by have h1 : partOk 1 3 p3 = false := (by simp [partOk, q1]); simp [colorR, h1])
          go_wp2
          go_ret
          exact ⟨by rw [H.out]; rfl, by (repeat' (first | (with_reducible exact Up.refl _) | (with_reducible assumption) | (with_reducible refine Up.alloc ?_ _) | (with_reducible refine Up.drew ?_) | (with_reducible refine Up.drewN ?_ _) | (with_reducible refine Up.setCell ?_ ?_ _) | (with_reducible refine Up.call ?_ (by with_reducible assumption)) | go_size))⟩
        obtain ⟨b2, q2⟩ : ∃ b, decide (65536 < p3) = b := ⟨_, rfl⟩
        cases b2
        rotate_left
        · have H := Lib.hid (show colorR 1 p0 p1 p2 p3 = false by have h1 : partOk 1 3 p3 = false := (by simp [partOk, q1, q2]); simp [colorR, h1])
          go_wp2
          go_ret
          exact ⟨by rw [H.out]; rfl, by (repeat' (first | (with_reducible exact Up.refl _) | (with_reducible assumption) | (with_reducible refine Up.alloc ?_ _) | (with_reducible refine Up.drew ?_) | (with_reducible refine Up.drewN ?_ _) | (with_reducible refine Up.setCell ?_ ?_ _) | (with_reducible refine Up.call ?_ (by with_reducible assumption)) | go_size))⟩
        obtain ⟨b3, q3⟩ : ∃ b, (p3 == 0) = b := ⟨_, rfl⟩
        cases b3
        · have H := Lib.hid (show colorR 1 p0 p1 p2 p3 = false by have h1 : partOk 1 3 p3 = false := (by simp [partOk, q1, q2, q3]); simp [colorR, h1])
          go_wp2
          go_ret
          exact ⟨by rw [H.out]; rfl, by (repeat' (first | (with_reducible exact Up.refl _) | (with_reducible assumption) | (with_reducible refine Up.alloc ?_ _) | (with_reducible refine Up.drew ?_) | (with_reducible refine Up.drewN ?_ _) | (with_reducible refine Up.setCell ?_ ?_ _) | (with_reducible refine Up.call ?_ (by with_reducible assumption)) | go_size))⟩
        have HO3 := Lib.hid (show partOk 1 3 p3 = true by simp [partOk, q1, q2, q3])
        go_wp2
        go_roundw
        case rel => exact ⟨4, by decide, by go_num, Lib.hid (fun _ => HO0.out (by decide)), Lib.hid (fun _ => HO1.out (by decide)), Lib.hid (fun _ => HO2.out (by decide)), Lib.hid (fun _ => HO3.out)⟩
        case measure => simp [intOf]
      · have H := Lib.hid (show colorR 1 p0 p1 p2 p3 = true by simp [colorR, HS.out, HO0.out (by decide), HO1.out (by decide), HO2.out (by decide), HO3.out (by decide)])
        go_wp2
        go_ret
        exact ⟨by rw [H.out]; rfl, by (repeat' (first | (with_reducible exact Up.refl _) | (with_reducible assumption) | (with_reducible refine Up.alloc ?_ _) | (with_reducible refine Up.drew ?_) | (with_reducible refine Up.drewN ?_ _) | (with_reducible refine Up.setCell ?_ ?_ _) | (with_reducible refine Up.call ?_ (by with_reducible assumption)) | go_size))⟩
  · go_enter Tryd.func33, Tryd.ntmps33
    go_wp2
    go_loop [20] (fun s20 => ∃ k : Nat, k ≤ 4 ∧ s20 = .int .i64 k ∧ Hid (0 < k → partOk 3 0 p0 = true) ∧ Hid (1 < k → partOk 3 1 p1 = true) ∧ Hid (2 < k → partOk 3 2 p2 = true) ∧ Hid (3 < k → partOk 3 3 p3 = true)) (fun s20 => 4 - (intOf s20).toNat)
    case atStart => exact ⟨0, by decide, rfl, Lib.hid (fun h => absurd h (by decide)), Lib.hid (fun h => absurd h (by decide)), Lib.hid (fun h => absurd h (by decide)), Lib.hid (fun h => absurd h (by decide))⟩
    case round =>
      obtain ⟨k, hk, rfl, HO0, HO1, HO2, HO3⟩ := hrel
      rcases (show k = 0 ∨ k = 1 ∨ k = 2 ∨ k = 3 ∨ k = 4 by omega) with rfl | rfl | rfl | rfl | rfl
      · obtain ⟨b1, q1⟩ : ∃ b, decide (p0 < 0) = b := ⟨_, rfl⟩
        cases b1
        rotate_left
        · have H := Lib.hid (show colorR 3 p0 p1 p2 p3 = false by have h1 : partOk 3 0 p0 = false := (by simp [partOk, q1]); simp [colorR, h1])
          go_wp2
          go_ret
          exact ⟨by rw [H.out]; rfl, by (repeat' (first | (with_reducible exact Up.refl _) | (with_reducible assumption) | (with_reducible refine Up.alloc ?_ _) | (with_reducible refine Up.drew ?_) | (with_reducible refine Up.drewN ?_ _) | (with_reducible refine Up.setCell ?_ ?_ _) | (with_reducible refine Up.call ?_ (by with_reducible assumption)) | go_size))⟩
        obtain ⟨b2, q2⟩ : ∃ b, decide (65536 < p0) = b := ⟨_, rfl⟩
        cases b2
        rotate_left
        · have H := Lib.hid (show colorR 3 p0 p1 p2 p3 = false by have h1 : partOk 3 0 p0 = false := (by simp [partOk, q1, q2]); simp [colorR, h1])
          go_wp2
          go_ret
          exact ⟨by rw [H.out]; rfl, by (repeat' (first | (with_reducible exact Up.refl _) | (with_reducible assumption) | (with_reducible refine Up.alloc ?_ _) | (with_reducible refine Up.drew ?_) | (with_reducible refine Up.drewN ?_ _) | (with_reducible refine Up.setCell ?_ ?_ _) | (with_reducible refine Up.call ?_ (by with_reducible assumption)) | go_size))⟩
        have HO0 := Lib.hid (show partOk 3 0 p0 = true by simp [partOk, q1, q2])
        go_wp2
        go_roundw
        case rel => exact ⟨1, by decide, by go_num, Lib.hid (fun _ => HO0.out), Lib.hid (fun h => absurd h (by decide)), Lib.hid (fun h => absurd h (by decide)), Lib.hid (fun h => absurd h (by decide))⟩
        case measure => simp [intOf]
      · obtain ⟨b1, q1⟩ : ∃ b, decide (p1 < 0) = b := ⟨_, rfl⟩
        cases b1
        rotate_left
        · have H := Lib.hid (show colorR 3 p0 p1 p2 p3 = false by have h1 : partOk 3 1 p1 = false := (by simp [partOk, q1]); simp [colorR, h1])
          go_wp2
          go_ret
          exact ⟨by rw [H.out]; rfl, by (repeat' (first | (with_reducible exact Up.refl _) | (with_reducible assumption) | (with_reducible refine Up.alloc ?_ _) | (with_reducible refine Up.drew ?_) | (with_reducible refine Up.drewN ?_ _) | (with_reducible refine Up.setCell ?_ ?_ _) | (with_reducible refine Up.call ?_ (by with_reducible assumption)) | go_size))⟩
        obtain ⟨b2, q2⟩ : ∃ b, decide (65536 < p1) = b := ⟨_, rfl⟩
        cases b2
        rotate_left
        · have H := Lib.hid (show colorR 3 p0 p1 p2 p3 = false by have h1 : partOk 3 1 p1 = false := (by simp [partOk, q1, q2]); simp [colorR, h1])
          go_wp2
          go_ret
          exact ⟨by rw [H.out]; rfl, by (repeat' (first | (with_reducible exact Up.refl _) | (with_reducible assumption) | (with_reducible refine Up.alloc ?_ _) | (with_reducible refine Up.drew ?_) | (with_reducible refine Up.drewN ?_ _) | (with_reducible refine Up.setCell ?_ ?_ _) | (with_reducible refine Up.call ?_ (by with_reducible assumption)) | go_size))⟩
        have HO1 := Lib.hid (show partOk 3 1 p1 = true by simp [partOk, q1, q2])
        go_wp2
        go_roundw
        case rel => exact ⟨2, by decide, by go_num, Lib.hid (fun _ => HO0.out (by decide)), Lib.hid (fun _ => HO1.out), Lib.hid (fun h => absurd h (by decide)), Lib.hid (fun h => absurd h (by decide))⟩
        case measure => simp [intOf]
      · obtain ⟨b1, q1⟩ : ∃ b, decide (p2 < 0) = b := ⟨_, rfl⟩
        cases b1
        rotate_left
        · have H := Lib.hid (show colorR 3 p0 p1 p2 p3 = false by have h1 : partOk 3 2 p2 = false := (by simp [partOk, q1]); simp [colorR, h1])
          go_wp2
          go_ret
          exact ⟨by rw [H.out]; rfl, by (repeat' (first | (with_reducible exact Up.refl _) | (with_reducible assumption) | (with_reducible refine Up.alloc ?_ _) | (with_reducible refine Up.drew ?_) | (with_reducible refine Up.drewN ?_ _) | (with_reducible refine Up.setCell ?_ ?_ _) | (with_reducible refine Up.call ?_ (by with_reducible assumption)) | go_size))⟩
        obtain ⟨b2, q2⟩ : ∃ b, decide (65536 < p2) = b := ⟨_, rfl⟩
        cases b2
        rotate_left
        · have H := Lib.hid (show colorR 3 p0 p1 p2 p3 = false by have h1 : partOk 3 2 p2 = false := (by simp [partOk, q1, q2]); simp [colorR, h1])
          go_wp2
          go_ret
          exact ⟨by rw [H.out]; rfl, by (repeat' (first | (with_reducible exact Up.refl _) | (with_reducible assumption) | (with_reducible refine Up.alloc ?_ _) | (with_reducible refine Up.drew ?_) | (with_reducible refine Up.drewN ?_ _) | (with_reducible refine Up.setCell ?_ ?_ _) | (with_reducible refine Up.call ?_ (by with_reducible assumption)) | go_size))⟩
        have HO2 := Lib.hid (show partOk 3 2 p2 = true by simp [partOk, q1, q2])
        go_wp2
        go_roundw
        case rel => exact ⟨3, by decide, by go_num, Lib.hid (fun _ => HO0.out (by decide)), Lib.hid (fun _ => HO1.out (by decide)), Lib.hid (fun _ => HO2.out), Lib.hid (fun h => absurd h (by decide))⟩
        case measure => simp [intOf]
      · obtain ⟨b1, q1⟩ : ∃ b, decide (p3 < 0) = b := ⟨_, rfl⟩
        cases b1
        rotate_left
        · have H := Lib.hid (show colorR 3 p0 p1 p2 p3 = false by have h1 : partOk 3 3 p3 = false := (by simp [partOk, q1]); simp [colorR, h1])
          go_wp2
          go_ret
          exact ⟨by rw [H.out]; rfl, by (repeat' (first | (with_reducible exact Up.refl _) | (with_reducible assumption) | (with_reducible refine Up.alloc ?_ _) | (with_reducible refine Up.drew ?_) | (with_reducible refine Up.drewN ?_ _) | (with_reducible refine Up.setCell ?_ ?_ _) | (with_reducible refine Up.call ?_ (by with_reducible assumption)) | go_size))⟩
        obtain ⟨b2, q2⟩ : ∃ b, decide (65536 < p3) = b := ⟨_, rfl⟩
        cases b2
        rotate_left
        · have H := Lib.hid (show colorR 3 p0 p1 p2 p3 = false by have h1 : partOk 3 3 p3 = false := (by simp [partOk, q1, q2]); simp [colorR, h1])
          go_wp2
          go_ret
          exact ⟨by rw [H.out]; rfl, by (repeat' (first | (with_reducible exact Up.refl _) | (with_reducible assumption) | (with_reducible refine Up.alloc ?_ _) | (with_reducible refine Up.drew ?_) | (with_reducible refine Up.drewN ?_ _) | (with_reducible refine Up.setCell ?_ ?_ _) | (with_reducible refine Up.call ?_ (by with_reducible assumption)) | go_size))⟩
        obtain ⟨b3, q3⟩ : ∃ b, (p3 == 0) = b := ⟨_, rfl⟩
        cases b3
        · have H := Lib.hid (show colorR 3 p0 p1 p2 p3 = false by have h1 : partOk 3 3 p3 = false := (by simp [partOk, q1, q2, q3]); simp [colorR, h1])
          go_wp2
          go_ret
          exact ⟨by rw [H.out]; rfl, by (repeat' (first | (with_reducible exact Up.refl _) | (with_reducible assumption) | (with_reducible refine Up.alloc ?_ _) | (with_reducible refine Up.drew ?_) | (with_reducible refine Up.drewN ?_ _) | (with_reducible refine Up.setCell ?_ ?_ _) | (with_reducible refine Up.call ?_ (by with_reducible assumption)) | go_size))⟩
        have HO3 := Lib.hid (show partOk 3 3 p3 = true by simp [partOk, q1, q2, q3])
        go_wp2
        go_roundw
        case rel => exact ⟨4, by decide, by go_num, Lib.hid (fun _ => HO0.out (by decide)), Lib.hid (fun _ => HO1.out (by decide)), Lib.hid (fun _ => HO2.out (by decide)), Lib.hid (fun _ => HO3.out)⟩
        case measure => simp [intOf]
      · have H := Lib.hid (show colorR 3 p0 p1 p2 p3 = true by simp [colorR, HS.out, HO0.out (by decide), HO1.out (by decide), HO2.out (by decide), HO3.out (by decide)])
        go_wp2
        go_ret
        exact ⟨by rw [H.out]; rfl, by (repeat' (first | (with_reducible exact Up.refl _) | (with_reducible assumption) | (with_reducible refine Up.alloc ?_ _) | (with_reducible refine Up.drew ?_) | (with_reducible refine Up.drewN ?_ _) | (with_reducible refine Up.setCell ?_ ?_ _) | (with_reducible refine Up.call ?_ (by with_reducible assumption)) | go_size))⟩
  · go_enter Tryd.func33, Tryd.ntmps33
    go_wp2
    go_loop [20] (fun s20 => ∃ k : Nat, k ≤ 4 ∧ s20 = .int .i64 k ∧ Hid (0 < k → partOk 4 0 p0 = true) ∧ Hid (1 < k → partOk 4 1 p1 = true) ∧ Hid (2 < k → partOk 4 2 p2 = true) ∧ Hid (3 < k → partOk 4 3 p3 = true)) (fun s20 => 4 - (intOf s20).toNat)
    case atStart => exact ⟨0, by decide, rfl, Lib.hid (fun h => absurd h (by decide)), Lib.hid (fun h => absurd h (by decide)), Lib.hid (fun h => absurd h (by decide)), Lib.hid (fun h => absurd h (by decide))⟩
    case round =>
      obtain ⟨k, hk, rfl, HO0, HO1, HO2, HO3⟩ := hrel
      rcases (show k = 0 ∨ k = 1 ∨ k = 2 ∨ k = 3 ∨ k = 4 by omega) with rfl | rfl | rfl | rfl | rfl
      · obtain ⟨b1, q1⟩ : ∃ b, decide (p0 < 0) = b := ⟨_, rfl⟩
        cases b1
        rotate_left
        · have H := Lib.hid (show colorR 4 p0 p1 p2 p3 = false by have h1 : partOk 4 0 p0 = false := (by simp [partOk, q1]); simp [colorR, h1])
          go_wp2
          go_ret
          exact ⟨by rw [H.out]; rfl, by (repeat' (first | (with_reducible exact Up.refl _) | (with_reducible assumption) | (with_reducible refine Up.alloc ?_ _) | (with_reducible refine Up.drew ?_) | (with_reducible refine Up.drewN ?_ _) | (with_reducible refine Up.setCell ?_ ?_ _) | (with_reducible refine Up.call ?_ (by with_reducible assumption)) | go_size))⟩
        obtain ⟨b2, q2⟩ : ∃ b, decide (65536 < p0) = b := ⟨_, rfl⟩
        cases b2
        rotate_left
        · have H := Lib.hid (show colorR 4 p0 p1 p2 p3 = false by have h1 : partOk 4 0 p0 = false := (by simp [partOk, q1, q2]); simp [colorR, h1])
          go_wp2
          go_ret
          exact ⟨by rw [H.out]; rfl, by (repeat' (first | (with_reducible exact Up.refl _) | (with_reducible assumption) | (with_reducible refine Up.alloc ?_ _) | (with_reducible refine Up.drew ?_) | (with_reducible refine Up.drewN ?_ _) | (with_reducible refine Up.setCell ?_ ?_ _) | (with_reducible refine Up.call ?_ (by with_reducible assumption)) | go_size))⟩
        have HO0 := Lib.hid (show partOk 4 0 p0 = true by simp [partOk, q1, q2])
        go_wp2
        go_roundw
        case rel => exact ⟨1, by decide, by go_num, Lib.hid (fun _ => HO0.out), Lib.hid (fun h => absurd h (by decide)), Lib.hid (fun h => absurd h (by decide)), Lib.hid (fun h => absurd h (by decide))⟩
        case measure => simp [intOf]
      · obtain ⟨b1, q1⟩ : ∃ b, decide (p1 < 0) = b := ⟨_, rfl⟩
        cases b1
        rotate_left
        · have H := Lib.hid (show colorR 4 p0 p1 p2 p3 = false by have h1 : partOk 4 1 p1 = false := (by simp [partOk, q1]); simp [colorR, h1])
          go_wp2
          go_ret
          exact ⟨by rw [H.out]; rfl, by (repeat' (first | (with_reducible exact Up.refl _) | (with_reducible assumption) | (with_reducible refine Up.alloc ?_ _) | (with_reducible refine Up.drew ?_) | (with_reducible refine Up.drewN ?_ _) | (with_reducible refine Up.setCell ?_ ?_ _) | (with_reducible refine Up.call ?_ (by with_reducible assumption)) | go_size))⟩
        obtain ⟨b2, q2⟩ : ∃ b, decide (65536 < p1) = b := ⟨_, rfl⟩
        cases b2
        rotate_left
        · have H := Lib.hid (show colorR 4 p0 p1 p2 p3 = false by have h1 : partOk 4 1 p1 = false := (by simp [partOk, q1, q2]); simp [colorR, h1])
          go_wp2
          go_ret
          exact ⟨by rw [H.out]; rfl, by (repeat' (first | (with_reducible exact Up.refl _) | (with_reducible assumption) | (with_reducible refine Up.alloc ?_ _) | (with_reducible refine Up.drew ?_) | (with_reducible refine Up.drewN ?_ _) | (with_reducible refine Up.setCell ?_ ?_ _) | (with_reducible refine Up.call ?_ (by with_reducible assumption)) | go_size))⟩
        have HO1 := Lib.hid (show partOk 4 1 p1 = true by simp [partOk, q1, q2])
        go_wp2
        go_roundw
        case rel => exact ⟨2, by decide, by go_num, Lib.hid (fun _ => HO0.out (by decide)), Lib.hid (fun _ => HO1.out), Lib.hid (fun h => absurd h (by decide)), Lib.hid (fun h => absurd h (by decide))⟩
        case measure => simp [intOf]
      · obtain ⟨b1, q1⟩ : ∃ b, decide (p2 < 0) = b := ⟨_, rfl⟩
        cases b1
        rotate_left
        · have H := Lib.hid (show colorR 4 p0 p1 p2 p3 = false by have h1 : partOk 4 2 p2 = false := (by simp [partOk, q1]); simp [colorR, h1])
          go_wp2
          go_ret
          exact ⟨by rw [H.out]; rfl, by (repeat' (first | (with_reducible exact Up.refl _) | (with_reducible assumption) | (with_reducible refine Up.alloc ?_ _) | (with_reducible refine Up.drew ?_) | (with_reducible refine Up.drewN ?_ _) | (with_reducible refine Up.setCell ?_ ?_ _) | (with_reducible refine Up.call ?_ (by with_reducible assumption)) | go_size))⟩
        obtain ⟨b2, q2⟩ : ∃ b, decide (65536 < p2) = b := ⟨_, rfl⟩
        cases b2
        rotate_left
        · have H := Lib.hid (show colorR 4 p0 p1 p2 p3 = false by have h1 : partOk 4 2 p2 = false := (by simp [partOk, q1, q2]); simp [colorR, h1])
          go_wp2
          go_ret
          exact ⟨by rw [H.out]; rfl, by (repeat' (first | (with_reducible exact Up.refl _) | (with_reducible assumption) | (with_reducible refine Up.alloc ?_ _) | (with_reducible refine Up.drew ?_) | (with_reducible refine Up.drewN ?_ _) | (with_reducible refine Up.setCell ?_ ?_ _) | (with_reducible refine Up.call ?_ (by with_reducible assumption)) | go_size))⟩
        have HO2 := Lib.hid (show partOk 4 2 p2 = true by simp [partOk, q1, q2])
        go_wp2
        go_roundw
        case rel => exact ⟨3, by decide, by go_num, Lib.hid (fun _ => HO0.out (by decide)), Lib.hid (fun _ => HO1.out (by decide)), Lib.hid (fun _ => HO2.out), Lib.hid (fun h => absurd h (by decide))⟩
        case measure => simp [intOf]
      · obtain ⟨b1, q1⟩ : ∃ b, decide (p3 < 0) = b := ⟨_, rfl⟩
        cases b1
        rotate_left
        · have H := Lib.hid (show colorR 4 p0 p1 p2 p3 = false by have h1 : partOk 4 3 p3 = false := (by simp [partOk, q1]); simp [colorR, h1])
          go_wp2
          go_ret
          exact ⟨by rw [H.out]; rfl, by (repeat' (first | (with_reducible exact Up.refl _) | (with_reducible assumption) | (with_reducible refine Up.alloc ?_ _) | (with_reducible refine Up.drew ?_) | (with_reducible refine Up.drewN ?_ _) | (with_reducible refine Up.setCell ?_ ?_ _) | (with_reducible refine Up.call ?_ (by with_reducible assumption)) | go_size))⟩
        obtain ⟨b2, q2⟩ : ∃ b, decide (65536 < p3) = b := ⟨_, rfl⟩
        cases b2
        rotate_left
        · have H := Lib.hid (show colorR 4 p0 p1 p2 p3 = false by have h1 : partOk 4 3 p3 = false := (by simp [partOk, q1, q2]); simp [colorR, h1])
          go_wp2
          go_ret
          exact ⟨by rw [H.out]; rfl, by (repeat' (first | (with_reducible exact Up.refl _) | (with_reducible assumption) | (with_reducible refine Up.alloc ?_ _) | (with_reducible refine Up.drew ?_) | (with_reducible refine Up.drewN ?_ _) | (with_reducible refine Up.setCell ?_ ?_ _) | (with_reducible refine Up.call ?_ (by with_reducible assumption)) | go_size))⟩
        have HO3 := Lib.hid (show partOk 4 3 p3 = true by simp [partOk, q1, q2])
        go_wp2
        go_roundw
        case rel => exact ⟨4, by decide, by go_num, Lib.hid (fun _ => HO0.out (by decide)), Lib.hid (fun _ => HO1.out (by decide)), Lib.hid (fun _ => HO2.out (by decide)), Lib.hid (fun _ => HO3.out)⟩
        case measure => simp [intOf]
      · have H := Lib.hid (show colorR 4 p0 p1 p2 p3 = true by simp [colorR, HS.out, HO0.out (by decide), HO1.out (by decide), HO2.out (by decide), HO3.out (by decide)])
        go_wp2
        go_ret
        exact ⟨by rw [H.out]; rfl, by (repeat' (first | (with_reducible exact Up.refl _) | (with_reducible assumption) | (with_reducible refine Up.alloc ?_ _) | (with_reducible refine Up.drew ?_) | (with_reducible refine Up.drewN ?_ _) | (with_reducible refine Up.setCell ?_ ?_ _) | (with_reducible refine Up.call ?_ (by with_reducible assumption)) | go_size))⟩

end Go.Proofs.YteddlahklilncaaDoor.Pt