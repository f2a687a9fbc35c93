/- Which items of a page are sound: the plain tests, and paint's functions walked. Its condition: the fonts' names lie as they are laid. Which items of a page are sound: paint's letters, pen, clips and item, walked. Its condition: the fonts' names lie as they are laid. paint.item and paint.Sound of any page, walked. Its condition: the fonts' names lie as they are laid. paint.Sound of any page, walked. Its condition: the fonts' names lie as they are laid. -/
import Derived.Test.YtpellcdggaeppaaGreatDoorGPt1
import Derived.Test.YtpellcdggaeppaaGreatDoorGPathW9
import Derived.Test.YtpellcdggaeppaaGreatDoorGPt0
import Derived.Test.YtpellcdggaeppaaGreatDoorEq6
section
namespace Go.Proofs.YtpellcdggaeppaaGreatDoor.Pt
open Go.ChangeShapes Go.WideShapes Go.ChangeAt Go.RowKit
open Go.Proofs.YtpellcdggaeppaaGreatDoor.FixM (fits)
open Go.Proofs.YtpellcdggaeppaaGreatDoor.PathM (Seg sound)
open Go.Proofs.YtpellcdggaeppaaGreatDoor.MatM (M6)
set_option linter.unusedVariables false
set_option linter.unusedSimpArgs false

def sideR (n : Int) : Bool := decide (65536 ≤ n) && (decide (n ≤ 943718400) && (n.tmod 65536 == 0))
def partOk (sp i p : Int) : Bool := !decide (p < 0) && !decide (65536 < p) && (!decide (sp ≤ i) || (p == 0))
def spaceOk (sp : Int) : Bool := (sp == 1) || (sp == 3) || (sp == 4)
def colorR (sp p0 p1 p2 p3 : Int) : Bool := spaceOk sp && (partOk sp 0 p0 && (partOk sp 1 p1 && (partOk sp 2 p2 && partOk sp 3 p3)))
def noneR (wd cp jn mt : Int) (dl : Nat) (ph : Int) : Bool := (wd == 0) && ((cp == 0) && ((jn == 0) && ((mt == 0) && (((dl : Int) == 0) && (ph == 0)))))
def dashOk (n : Int) : Bool := !decide (n < 0) && fits n
def penB (wd cp jn mt : Int) (dl : Nat) (ph : Int) : Bool := decide (wd < 0) || (!fits wd || (decide (cp < 0) || (decide (2 < cp) || (decide (jn < 0) || (decide (2 < jn) || (decide (mt < 65536) || (!fits mt || (decide (ph < 0) || (!fits ph || decide ((11 : Int) < (dl : Int)))))))))))
def penR (wd cp jn mt : Int) (ds : List Int) (ph : Int) : Bool := !penB wd cp jn mt ds.length ph && ds.all dashOk && ((ds.length == 0) || decide (0 < ds.sum))
def clipOk (c : Clip) : Bool := !(c.l.length == 0) && sound c.l
def clipsR (l : List Clip) : Bool := decide (l.length ≤ 16) && l.all clipOk
def lettersR (fn : Int) (m : M6) (bl : Nat) : Bool := decide (0 ≤ fn ∧ fn < 14) && (decide (1 ≤ bl) && (decide (bl ≤ 65535) && !((lM m).any fun n => !fits n)))
def m0 (m : M6) : Bool := all6 m.a m.b m.c m.d m.x m.y 0 0 0 0 0 0
def itemB (tC tK tL tN tP tS tM : Bool) (k fn : Int) (pl bl : Nat) : Bool :=
  if tC && tK then
    if k = 4 then tL && (((pl : Int) == 0) && tN)
    else if (fn != 0) || (!tM || (decide (0 < bl) || (((pl : Int) == 0) || !tS))) then false
    else if k = 1 ∨ k = 2 then tN
    else if k = 3 then tP
    else false
  else false
def itemR (i : Item) : Bool := itemB (colorR i.sp i.p0 i.p1 i.p2 i.p3) (clipsR i.cl) (lettersR i.fn i.m i.bs.length) (noneR i.wd i.cap i.jn i.mt i.ds.length i.ph) (penR i.wd i.cap i.jn i.mt i.ds i.ph) (sound i.l) (m0 i.m) i.k i.fn i.l.length i.bs.length

theorem side_calls (n : Int) (w : World) : Calls Tryz.prog 38 #[.int .i64 n] w fun E w' => E = .returned (.bool (sideR n)) ∧ Up w w' := by
  obtain ⟨b_h1, h1⟩ : ∃ b, (decide (65536 ≤ n)) = b := ⟨_, rfl⟩
  cases b_h1
  · go_enter Tryz.func38, Tryz.ntmps38
    go_wp2
    go_ret
    exact ⟨by simp [sideR, h1], by (repeat' (first | (with_reducible first | exact Up.refl _ | assumption | refine Up.alloc ?_ _ | refine Up.drew ?_ | refine Up.drewN ?_ _ | refine Up.setCell ?_ ?_ _ | refine Up.call ?_ (by assumption)) | go_size))⟩
  obtain ⟨b_h2, h2⟩ : ∃ b, (decide (n ≤ 943718400)) = b := ⟨_, rfl⟩
  cases b_h2
  · go_enter Tryz.func38, Tryz.ntmps38
    go_wp2
    go_ret
    exact ⟨by simp [sideR, h1, h2], by (repeat' (first | (with_reducible first | exact Up.refl _ | assumption | refine Up.alloc ?_ _ | refine Up.drew ?_ | refine Up.drewN ?_ _ | refine Up.setCell ?_ ?_ _ | refine Up.call ?_ (by assumption)) | go_size))⟩
  obtain ⟨b_h3, h3⟩ : ∃ b, (n.tmod 65536 == 0) = b := ⟨_, rfl⟩
  cases b_h3
  · go_enter Tryz.func38, Tryz.ntmps38
    go_wp2
    go_ret
    exact ⟨by simp [sideR, h1, h2, h3], by (repeat' (first | (with_reducible first | exact Up.refl _ | assumption | refine Up.alloc ?_ _ | refine Up.drew ?_ | refine Up.drewN ?_ _ | refine Up.setCell ?_ ?_ _ | refine Up.call ?_ (by assumption)) | go_size))⟩
  go_enter Tryz.func38, Tryz.ntmps38
  go_wp2
  go_ret
  exact ⟨by simp [sideR, h1, h2, h3], by (repeat' (first | (with_reducible first | exact Up.refl _ | assumption | refine Up.alloc ?_ _ | refine Up.drew ?_ | refine Up.drewN ?_ _ | refine Up.setCell ?_ ?_ _ | refine Up.call ?_ (by assumption)) | go_size))⟩

set_option maxRecDepth 8000 in
theorem none_calls (wd cp jn mt ph : Int) (da : Option Addr) (dl dc : Nat) (w : World) : Calls Tryz.prog 72 #[.agg #[.int .i64 wd, .int .i64 cp, .int .i64 jn, .int .i64 mt, .slice da dl dc, .int .i64 ph]] w fun E w' => E = .returned (.bool (noneR wd cp jn mt dl ph)) ∧ Up w w' := by
  obtain ⟨b_h1, h1⟩ : ∃ b, (wd == 0) = b := ⟨_, rfl⟩
  cases b_h1
  · go_enter Tryz.func72, Tryz.ntmps72
    go_wp2
    go_ret
    exact ⟨by simp [noneR, h1], by (repeat' (first | (with_reducible first | exact Up.refl _ | assumption | refine Up.alloc ?_ _ | refine Up.drew ?_ | refine Up.drewN ?_ _ | refine Up.setCell ?_ ?_ _ | refine Up.call ?_ (by assumption)) | go_size))⟩
  obtain ⟨b_h2, h2⟩ : ∃ b, (cp == 0) = b := ⟨_, rfl⟩
  cases b_h2
  · go_enter Tryz.func72, Tryz.ntmps72
    go_wp2
    go_ret
    exact ⟨by simp [noneR, h1, h2], by (repeat' (first | (with_reducible first | exact Up.refl _ | assumption | refine Up.alloc ?_ _ | refine Up.drew ?_ | refine Up.drewN ?_ _ | refine Up.setCell ?_ ?_ _ | refine Up.call ?_ (by assumption)) | go_size))⟩
  obtain ⟨b_h3, h3⟩ : ∃ b, (jn == 0) = b := ⟨_, rfl⟩
  cases b_h3
  · go_enter Tryz.func72, Tryz.ntmps72
    go_wp2
    go_ret
    exact ⟨by simp [noneR, h1, h2, h3], by (repeat' (first | (with_reducible first | exact Up.refl _ | assumption | refine Up.alloc ?_ _ | refine Up.drew ?_ | refine Up.drewN ?_ _ | refine Up.setCell ?_ ?_ _ | refine Up.call ?_ (by assumption)) | go_size))⟩
  obtain ⟨b_h4, h4⟩ : ∃ b, (mt == 0) = b := ⟨_, rfl⟩
  cases b_h4
  · go_enter Tryz.func72, Tryz.ntmps72
    go_wp2
    go_ret
    exact ⟨by simp [noneR, h1, h2, h3, h4], by (repeat' (first | (with_reducible first | exact Up.refl _ | assumption | refine Up.alloc ?_ _ | refine Up.drew ?_ | refine Up.drewN ?_ _ | refine Up.setCell ?_ ?_ _ | refine Up.call ?_ (by assumption)) | go_size))⟩
  obtain ⟨b_h5, h5⟩ : ∃ b, ((dl : Int) == 0) = b := ⟨_, rfl⟩
  cases b_h5
  · go_enter Tryz.func72, Tryz.ntmps72
    go_wp2
    go_ret
    exact ⟨by simp [noneR, h1, h2, h3, h4, h5], by (repeat' (first | (with_reducible first | exact Up.refl _ | assumption | refine Up.alloc ?_ _ | refine Up.drew ?_ | refine Up.drewN ?_ _ | refine Up.setCell ?_ ?_ _ | refine Up.call ?_ (by assumption)) | go_size))⟩
  obtain ⟨b_h6, h6⟩ : ∃ b, (ph == 0) = b := ⟨_, rfl⟩
  cases b_h6
  · go_enter Tryz.func72, Tryz.ntmps72
    go_wp2
    go_ret
    exact ⟨by simp [noneR, h1, h2, h3, h4, h5, h6], by (repeat' (first | (with_reducible first | exact Up.refl _ | assumption | refine Up.alloc ?_ _ | refine Up.drew ?_ | refine Up.drewN ?_ _ | refine Up.setCell ?_ ?_ _ | refine Up.call ?_ (by assumption)) | go_size))⟩
  go_enter Tryz.func72, Tryz.ntmps72
  go_wp2
  go_ret
  exact ⟨by simp [noneR, h1, h2, h3, h4, h5, h6], by (repeat' (first | (with_reducible first | exact Up.refl _ | assumption | refine Up.alloc ?_ _ | refine Up.drew ?_ | refine Up.drewN ?_ _ | refine Up.setCell ?_ ?_ _ | refine Up.call ?_ (by assumption)) | go_size))⟩

set_option maxRecDepth 8000 in
set_option maxHeartbeats 2000000 in
theorem color_calls (sp p0 p1 p2 p3 : Int) (w : World) : Calls Tryz.prog 69 #[.agg #[.int .i64 sp, .int .i64 p0, .int .i64 p1, .int .i64 p2, .int .i64 p3]] w fun E w' => E = .returned (.bool (colorR sp p0 p1 p2 p3)) ∧ Up w w' := by
  have x0 : ∀ W : World, (Instr.index 42 (.agg #[.int .i64 p0, .int .i64 p1, .int .i64 p2, .int .i64 p3]) (.int .i64 0)).run Tryz.prog W = .ok (.int .i64 p0) W := fun W => by kernel_rfl
  have x1 : ∀ W : World, (Instr.index 42 (.agg #[.int .i64 p0, .int .i64 p1, .int .i64 p2, .int .i64 p3]) (.int .i64 1)).run Tryz.prog W = .ok (.int .i64 p1) W := fun W => by kernel_rfl
  have x2 : ∀ W : World, (Instr.index 42 (.agg #[.int .i64 p0, .int .i64 p1, .int .i64 p2, .int .i64 p3]) (.int .i64 2)).run Tryz.prog W = .ok (.int .i64 p2) W := fun W => by kernel_rfl
  have x3 : ∀ W : World, (Instr.index 42 (.agg #[.int .i64 p0, .int .i64 p1, .int .i64 p2, .int .i64 p3]) (.int .i64 3)).run Tryz.prog W = .ok (.int .i64 p3) W := fun W => by kernel_rfl
  by_cases hs : spaceOk sp = true
  rotate_left
  · have hs : spaceOk sp = false := by simpa using hs
    have H := Lib.hid (show colorR sp p0 p1 p2 p3 = false by unfold colorR; rw [hs]; rfl)
    unfold spaceOk at hs
    simp only [Bool.or_eq_false_iff] at hs
    obtain ⟨⟨d1, d2⟩, d3⟩ := hs
    have e1 : (sp != 1) = true := by simp [bne, d1]
    have e2 : (sp != 3) = true := by simp [bne, d2]
    have e3 : (sp != 4) = true := by simp [bne, d3]
    clear d1 d2 d3
    go_enter Tryz.func69, Tryz.ntmps69
    go_wp2
    go_ret
    exact ⟨by rw [H.out]; rfl, by (repeat' (first | (with_reducible first | exact Up.refl _ | assumption | refine Up.alloc ?_ _ | refine Up.drew ?_ | refine Up.drewN ?_ _ | refine Up.setCell ?_ ?_ _ | refine Up.call ?_ (by assumption)) | go_size))⟩
  have HS := Lib.hid hs
  have hsp : sp = 1 ∨ sp = 3 ∨ sp = 4 := by simpa [spaceOk, or_assoc] using hs
  clear hs
  have key : ∀ k : Nat, k < 5 → True := fun _ _ => trivial
  rcases hsp with rfl | rfl | rfl
  · go_enter Tryz.func69, Tryz.ntmps69
    go_wp2
    go_loop [20] (fun s20 => ∃ k : Nat, k ≤ 4 ∧ s20 = .int .i64 k ∧ Hid (0 < k → partOk 1 0 p0 = true) ∧ Hid (1 < k → partOk 1 1 p1 = true) ∧ Hid (2 < k → partOk 1 2 p2 = true) ∧ Hid (3 < k → partOk 1 3 p3 = true)) (fun s20 => 4 - (intOf s20).toNat)
    case atStart => exact ⟨0, by decide, rfl, Lib.hid (fun h => absurd h (by decide)), Lib.hid (fun h => absurd h (by decide)), Lib.hid (fun h => absurd h (by decide)), Lib.hid (fun h => absurd h (by decide))⟩
    case round =>
      obtain ⟨k, hk, rfl, HO0, HO1, HO2, HO3⟩ := hrel
      rcases (show k = 0 ∨ k = 1 ∨ k = 2 ∨ k = 3 ∨ k = 4 by omega) with rfl | rfl | rfl | rfl | rfl
      · obtain ⟨b1, q1⟩ : ∃ b, decide (p0 < 0) = b := ⟨_, rfl⟩
        cases b1
        rotate_left
        · have H := Lib.hid (show colorR 1 p0 p1 p2 p3 = false by have h1 : partOk 1 0 p0 = false := (by simp [partOk, q1]); simp [colorR, h1])
          go_wp2
          go_ret
          exact ⟨by rw [H.out]; rfl, by (repeat' (first | (with_reducible first | exact Up.refl _ | assumption | refine Up.alloc ?_ _ | refine Up.drew ?_ | refine Up.drewN ?_ _ | refine Up.setCell ?_ ?_ _ | refine Up.call ?_ (by assumption)) | go_size))⟩
        obtain ⟨b2, q2⟩ : ∃ b, decide (65536 < p0) = b := ⟨_, rfl⟩
        cases b2
        rotate_left
        · have H := Lib.hid (show colorR 1 p0 p1 p2 p3 = false by have h1 : partOk 1 0 p0 = false := (by simp [partOk, q1, q2]); simp [colorR, h1])
          go_wp2
          go_ret
          exact ⟨by rw [H.out]; rfl, by (repeat' (first | (with_reducible first | exact Up.refl _ | assumption | refine Up.alloc ?_ _ | refine Up.drew ?_ | refine Up.drewN ?_ _ | refine Up.setCell ?_ ?_ _ | refine Up.call ?_ (by assumption)) | go_size))⟩
        have HO0 := Lib.hid (show partOk 1 0 p0 = true by simp [partOk, q1, q2])
        go_wp2
        go_roundw
        case rel => exact ⟨1, by decide, by go_num, Lib.hid (fun _ => HO0.out), Lib.hid (fun h => absurd h (by decide)), Lib.hid (fun h => absurd h (by decide)), Lib.hid (fun h => absurd h (by decide))⟩
        case measure => simp [intOf]
      · obtain ⟨b1, q1⟩ : ∃ b, decide (p1 < 0) = b := ⟨_, rfl⟩
        cases b1
        rotate_left
        · have H := Lib.hid (show colorR 1 p0 p1 p2 p3 = false by have h1 : partOk 1 1 p1 = false := (by simp [partOk, q1]); simp [colorR, h1])
          go_wp2
          go_ret
          exact ⟨by rw [H.out]; rfl, by (repeat' (first | (with_reducible first | exact Up.refl _ | assumption | refine Up.alloc ?_ _ | refine Up.drew ?_ | refine Up.drewN ?_ _ | refine Up.setCell ?_ ?_ _ | refine Up.call ?_ (by assumption)) | go_size))⟩
        obtain ⟨b2, q2⟩ : ∃ b, decide (65536 < p1) = b := ⟨_, rfl⟩
        cases b2
        rotate_left
        · have H := Lib.hid (show colorR 1 p0 p1 p2 p3 = false by have h1 : partOk 1 1 p1 = false := (by simp [partOk, q1, q2]); simp [colorR, h1])
          go_wp2
          go_ret
          exact ⟨by rw [H.out]; rfl, by (repeat' (first | (with_reducible first | exact Up.refl _ | assumption | refine Up.alloc ?_ _ | refine Up.drew ?_ | refine Up.drewN ?_ _ | refine Up.setCell ?_ ?_ _ | refine Up.call ?_ (by assumption)) | go_size))⟩
        obtain ⟨b3, q3⟩ : ∃ b, (p1 == 0) = b := ⟨_, rfl⟩
        cases b3
        · have H := Lib.hid (show colorR 1 p0 p1 p2 p3 = false by have h1 : partOk 1 1 p1 = false := (by simp [partOk, q1, q2, q3]); simp [colorR, h1])
          go_wp2
          go_ret
          exact ⟨by rw [H.out]; rfl, by (repeat' (first | (with_reducible first | exact Up.refl _ | assumption | refine Up.alloc ?_ _ | refine Up.drew ?_ | refine Up.drewN ?_ _ | refine Up.setCell ?_ ?_ _ | refine Up.call ?_ (by assumption)) | go_size))⟩
        have HO1 := Lib.hid (show partOk 1 1 p1 = true by simp [partOk, q1, q2, q3])
        go_wp2
        go_roundw
        case rel => exact ⟨2, by decide, by go_num, Lib.hid (fun _ => HO0.out (by decide)), Lib.hid (fun _ => HO1.out), Lib.hid (fun h => absurd h (by decide)), Lib.hid (fun h => absurd h (by decide))⟩
        case measure => simp [intOf]
      · obtain ⟨b1, q1⟩ : ∃ b, decide (p2 < 0) = b := ⟨_, rfl⟩
        cases b1
        rotate_left
        · have H := Lib.hid (show colorR 1 p0 p1 p2 p3 = false by have h1 : partOk 1 2 p2 = false := (by simp [partOk, q1]); simp [colorR, h1])
          go_wp2
          go_ret
          exact ⟨by rw [H.out]; rfl, by (repeat' (first | (with_reducible first | exact Up.refl _ | assumption | refine Up.alloc ?_ _ | refine Up.drew ?_ | refine Up.drewN ?_ _ | refine Up.setCell ?_ ?_ _ | refine Up.call ?_ (by assumption)) | go_size))⟩
        obtain ⟨b2, q2⟩ : ∃ b, decide (65536 < p2) = b := ⟨_, rfl⟩
        cases b2
        rotate_left
        · have H := Lib.hid (show colorR 1 p0 p1 p2 p3 = false by have h1 : partOk 1 2 p2 = false := (by simp [partOk, q1, q2]); simp [colorR, h1])
          go_wp2
          go_ret
          exact ⟨by rw [H.out]; rfl, by (repeat' (first | (with_reducible first | exact Up.refl _ | assumption | refine Up.alloc ?_ _ | refine Up.drew ?_ | refine Up.drewN ?_ _ | refine Up.setCell ?_ ?_ _ | refine Up.call ?_ (by assumption)) | go_size))⟩
        obtain ⟨b3, q3⟩ : ∃ b, (p2 == 0) = b := ⟨_, rfl⟩
        cases b3
        · have H := Lib.hid (show colorR 1 p0 p1 p2 p3 = false by have h1 : partOk 1 2 p2 = false := (by simp [partOk, q1, q2, q3]); simp [colorR, h1])
          go_wp2
          go_ret
          exact ⟨by rw [H.out]; rfl, by (repeat' (first | (with_reducible first | exact Up.refl _ | assumption | refine Up.alloc ?_ _ | refine Up.drew ?_ | refine Up.drewN ?_ _ | refine Up.setCell ?_ ?_ _ | refine Up.call ?_ (by assumption)) | go_size))⟩
        have HO2 := Lib.hid (show partOk 1 2 p2 = true by simp [partOk, q1, q2, q3])
        go_wp2
        go_roundw
        case rel => exact ⟨3, by decide, by go_num, Lib.hid (fun _ => HO0.out (by decide)), Lib.hid (fun _ => HO1.out (by decide)), Lib.hid (fun _ => HO2.out), Lib.hid (fun h => absurd h (by decide))⟩
        case measure => simp [intOf]
      · obtain ⟨b1, q1⟩ : ∃ b, decide (p3 < 0) = b := ⟨_, rfl⟩
        cases b1
        rotate_left
        · have H := Lib.hid (show colorR 1 p0 p1 p2 p3 = false by have h1 : partOk 1 3 p3 = false := (by simp [partOk, q1]); simp [colorR, h1])
          go_wp2
          go_ret
          exact ⟨by rw [H.out]; rfl, by (repeat' (first | (with_reducible first | exact Up.refl _ | assumption | refine Up.alloc ?_ _ | refine Up.drew ?_ | refine Up.drewN ?_ _ | refine Up.setCell ?_ ?_ _ | refine Up.call ?_ (by assumption)) | go_size))⟩
        obtain ⟨b2, q2⟩ : ∃ b, decide (65536 < p3) = b := ⟨_, rfl⟩
        cases b2
        rotate_left
        · have H := Lib.hid (show colorR 1 p0 p1 p2 p3 = false by have h1 : partOk 1 3 p3 = false := (by simp [partOk, q1, q2]); simp [colorR, h1])
          go_wp2
          go_ret
          exact ⟨by rw [H.out]; rfl, by (repeat' (first | (with_reducible first | exact Up.refl _ | assumption | refine Up.alloc ?_ _ | refine Up.drew ?_ | refine Up.drewN ?_ _ | refine Up.setCell ?_ ?_ _ | refine Up.call ?_ (by assumption)) | go_size))⟩
        obtain ⟨b3, q3⟩ : ∃ b, (p3 == 0) = b := ⟨_, rfl⟩
        cases b3
        · have H := Lib.hid (show colorR 1 p0 p1 p2 p3 = false by have h1 : partOk 1 3 p3 = false := (by simp [partOk, q1, q2, q3]); simp [colorR, h1])
          go_wp2
          go_ret
          exact ⟨by rw [H.out]; rfl, by (repeat' (first | (with_reducible first | exact Up.refl _ | assumption | refine Up.alloc ?_ _ | refine Up.drew ?_ | refine Up.drewN ?_ _ | refine Up.setCell ?_ ?_ _ | refine Up.call ?_ (by assumption)) | go_size))⟩
        have HO3 := Lib.hid (show partOk 1 3 p3 = true by simp [partOk, q1, q2, q3])
        go_wp2
        go_roundw
        case rel => exact ⟨4, by decide, by go_num, Lib.hid (fun _ => HO0.out (by decide)), Lib.hid (fun _ => HO1.out (by decide)), Lib.hid (fun _ => HO2.out (by decide)), Lib.hid (fun _ => HO3.out)⟩
        case measure => simp [intOf]
      · have H := Lib.hid (show colorR 1 p0 p1 p2 p3 = true by simp [colorR, HS.out, HO0.out (by decide), HO1.out (by decide), HO2.out (by decide), HO3.out (by decide)])
        go_wp2
        go_ret
        exact ⟨by rw [H.out]; rfl, by (repeat' (first | (with_reducible first | exact Up.refl _ | assumption | refine Up.alloc ?_ _ | refine Up.drew ?_ | refine Up.drewN ?_ _ | refine Up.setCell ?_ ?_ _ | refine Up.call ?_ (by assumption)) | go_size))⟩
  · go_enter Tryz.func69, Tryz.ntmps69
    go_wp2
    go_loop [20] (fun s20 => ∃ k : Nat, k ≤ 4 ∧ s20 = .int .i64 k ∧ Hid (0 < k → partOk 3 0 p0 = true) ∧ Hid (1 < k → partOk 3 1 p1 = true) ∧ Hid (2 < k → partOk 3 2 p2 = true) ∧ Hid (3 < k → partOk 3 3 p3 = true)) (fun s20 => 4 - (intOf s20).toNat)
    case atStart => exact ⟨0, by decide, rfl, Lib.hid (fun h => absurd h (by decide)), Lib.hid (fun h => absurd h (by decide)), Lib.hid (fun h => absurd h (by decide)), Lib.hid (fun h => absurd h (by decide))⟩
    case round =>
      obtain ⟨k, hk, rfl, HO0, HO1, HO2, HO3⟩ := hrel
      rcases (show k = 0 ∨ k = 1 ∨ k = 2 ∨ k = 3 ∨ k = 4 by omega) with rfl | rfl | rfl | rfl | rfl
      · obtain ⟨b1, q1⟩ : ∃ b, decide (p0 < 0) = b := ⟨_, rfl⟩
        cases b1
        rotate_left
        · have H := Lib.hid (show colorR 3 p0 p1 p2 p3 = false by have h1 : partOk 3 0 p0 = false := (by simp [partOk, q1]); simp [colorR, h1])
          go_wp2
          go_ret
          exact ⟨by rw [H.out]; rfl, by (repeat' (first | (with_reducible first | exact Up.refl _ | assumption | refine Up.alloc ?_ _ | refine Up.drew ?_ | refine Up.drewN ?_ _ | refine Up.setCell ?_ ?_ _ | refine Up.call ?_ (by assumption)) | go_size))⟩
        obtain ⟨b2, q2⟩ : ∃ b, decide (65536 < p0) = b := ⟨_, rfl⟩
        cases b2
        rotate_left
        · have H := Lib.hid (show colorR 3 p0 p1 p2 p3 = false by have h1 : partOk 3 0 p0 = false := (by simp [partOk, q1, q2]); simp [colorR, h1])
          go_wp2
          go_ret
          exact ⟨by rw [H.out]; rfl, by (repeat' (first | (with_reducible first | exact Up.refl _ | assumption | refine Up.alloc ?_ _ | refine Up.drew ?_ | refine Up.drewN ?_ _ | refine Up.setCell ?_ ?_ _ | refine Up.call ?_ (by assumption)) | go_size))⟩
        have HO0 := Lib.hid (show partOk 3 0 p0 = true by simp [partOk, q1, q2])
        go_wp2
        go_roundw
        case rel => exact ⟨1, by decide, by go_num, Lib.hid (fun _ => HO0.out), Lib.hid (fun h => absurd h (by decide)), Lib.hid (fun h => absurd h (by decide)), Lib.hid (fun h => absurd h (by decide))⟩
        case measure => simp [intOf]
      · obtain ⟨b1, q1⟩ : ∃ b, decide (p1 < 0) = b := ⟨_, rfl⟩
        cases b1
        rotate_left
        · have H := Lib.hid (show colorR 3 p0 p1 p2 p3 = false by have h1 : partOk 3 1 p1 = false := (by simp [partOk, q1]); simp [colorR, h1])
          go_wp2
          go_ret
          exact ⟨by rw [H.out]; rfl, by (repeat' (first | (with_reducible first | exact Up.refl _ | assumption | refine Up.alloc ?_ _ | refine Up.drew ?_ | refine Up.drewN ?_ _ | refine Up.setCell ?_ ?_ _ | refine Up.call ?_ (by assumption)) | go_size))⟩
        obtain ⟨b2, q2⟩ : ∃ b, decide (65536 < p1) = b := ⟨_, rfl⟩
        cases b2
        rotate_left
        · have H := Lib.hid (show colorR 3 p0 p1 p2 p3 = false by have h1 : partOk 3 1 p1 = false := (by simp [partOk, q1, q2]); simp [colorR, h1])
          go_wp2
          go_ret
          exact ⟨by rw [H.out]; rfl, by (repeat' (first | (with_reducible first | exact Up.refl _ | assumption | refine Up.alloc ?_ _ | refine Up.drew ?_ | refine Up.drewN ?_ _ | refine Up.setCell ?_ ?_ _ | refine Up.call ?_ (by assumption)) | go_size))⟩
        have HO1 := Lib.hid (show partOk 3 1 p1 = true by simp [partOk, q1, q2])
        go_wp2
        go_roundw
        case rel => exact ⟨2, by decide, by go_num, Lib.hid (fun _ => HO0.out (by decide)), Lib.hid (fun _ => HO1.out), Lib.hid (fun h => absurd h (by decide)), Lib.hid (fun h => absurd h (by decide))⟩
        case measure => simp [intOf]
      · obtain ⟨b1, q1⟩ : ∃ b, decide (p2 < 0) = b := ⟨_, rfl⟩
        cases b1
        rotate_left
        · have H := Lib.hid (show colorR 3 p0 p1 p2 p3 = false by have h1 : partOk 3 2 p2 = false := (by simp [partOk, q1]); simp [colorR, h1])
          go_wp2
          go_ret
          exact ⟨by rw [H.out]; rfl, by (repeat' (first | (with_reducible first | exact Up.refl _ | assumption | refine Up.alloc ?_ _ | refine Up.drew ?_ | refine Up.drewN ?_ _ | refine Up.setCell ?_ ?_ _ | refine Up.call ?_ (by assumption)) | go_size))⟩
        obtain ⟨b2, q2⟩ : ∃ b, decide (65536 < p2) = b := ⟨_, rfl⟩
        cases b2
        rotate_left
        · have H := Lib.hid (show colorR 3 p0 p1 p2 p3 = false by have h1 : partOk 3 2 p2 = false := (by simp [partOk, q1, q2]); simp [colorR, h1])
          go_wp2
          go_ret
          exact ⟨by rw [H.out]; rfl, by (repeat' (first | (with_reducible first | exact Up.refl _ | assumption | refine Up.alloc ?_ _ | refine Up.drew ?_ | refine Up.drewN ?_ _ | refine Up.setCell ?_ ?_ _ | refine Up.call ?_ (by assumption)) | go_size))⟩
        have HO2 := Lib.hid (show partOk 3 2 p2 = true by simp [partOk, q1, q2])
        go_wp2
        go_roundw
        case rel => exact ⟨3, by decide, by go_num, Lib.hid (fun _ => HO0.out (by decide)), Lib.hid (fun _ => HO1.out (by decide)), Lib.hid (fun _ => HO2.out), Lib.hid (fun h => absurd h (by decide))⟩
        case measure => simp [intOf]
      · obtain ⟨b1, q1⟩ : ∃ b, decide (p3 < 0) = b := ⟨_, rfl⟩
        cases b1
        rotate_left
        · have H := Lib.hid (show colorR 3 p0 p1 p2 p3 = false by have h1 : partOk 3 3 p3 = false := (by simp [partOk, q1]); simp [colorR, h1])
          go_wp2
          go_ret
          exact ⟨by rw [H.out]; rfl, by (repeat' (first | (with_reducible first | exact Up.refl _ | assumption | refine Up.alloc ?_ _ | refine Up.drew ?_ | refine Up.drewN ?_ _ | refine Up.setCell ?_ ?_ _ | refine Up.call ?_ (by assumption)) | go_size))⟩
        obtain ⟨b2, q2⟩ : ∃ b, decide (65536 < p3) = b := ⟨_, rfl⟩
        cases b2
        rotate_left
        · have H := Lib.hid (show colorR 3 p0 p1 p2 p3 = false by have h1 : partOk 3 3 p3 = false := (by simp [partOk, q1, q2]); simp [colorR, h1])
          go_wp2
          go_ret
          exact ⟨by rw [H.out]; rfl, by (repeat' (first | (with_reducible first | exact Up.refl _ | assumption | refine Up.alloc ?_ _ | refine Up.drew ?_ | refine Up.drewN ?_ _ | refine Up.setCell ?_ ?_ _ | refine Up.call ?_ (by assumption)) | go_size))⟩
        obtain ⟨b3, q3⟩ : ∃ b, (p3 == 0) = b := ⟨_, rfl⟩
        cases b3
        · have H := Lib.hid (show colorR 3 p0 p1 p2 p3 = false by have h1 : partOk 3 3 p3 = false := (by simp [partOk, q1, q2, q3]); simp [colorR, h1])
          go_wp2
          go_ret
          exact ⟨by rw [H.out]; rfl, by (repeat' (first | (with_reducible first | exact Up.refl _ | assumption | refine Up.alloc ?_ _ | refine Up.drew ?_ | refine Up.drewN ?_ _ | refine Up.setCell ?_ ?_ _ | refine Up.call ?_ (by assumption)) | go_size))⟩
        have HO3 := Lib.hid (show partOk 3 3 p3 = true by simp [partOk, q1, q2, q3])
        go_wp2
        go_roundw
        case rel => exact ⟨4, by decide, by go_num, Lib.hid (fun _ => HO0.out (by decide)), Lib.hid (fun _ => HO1.out (by decide)), Lib.hid (fun _ => HO2.out (by decide)), Lib.hid (fun _ => HO3.out)⟩
        case measure => simp [intOf]
      · have H := Lib.hid (show colorR 3 p0 p1 p2 p3 = true by simp [colorR, HS.out, HO0.out (by decide), HO1.out (by decide), HO2.out (by decide), HO3.out (by decide)])
        go_wp2
        go_ret
        exact ⟨by rw [H.out]; rfl, by (repeat' (first | (with_reducible first | exact Up.refl _ | assumption | refine Up.alloc ?_ _ | refine Up.drew ?_ | refine Up.drewN ?_ _ | refine Up.setCell ?_ ?_ _ | refine Up.call ?_ (by assumption)) | go_size))⟩
  · go_enter Tryz.func69, Tryz.ntmps69
    go_wp2
    go_loop [20] (fun s20 => ∃ k : Nat, k ≤ 4 ∧ s20 = .int .i64 k ∧ Hid (0 < k → partOk 4 0 p0 = true) ∧ Hid (1 < k → partOk 4 1 p1 = true) ∧ Hid (2 < k → partOk 4 2 p2 = true) ∧ Hid (3 < k → partOk 4 3 p3 = true)) (fun s20 => 4 - (intOf s20).toNat)
    case atStart => exact ⟨0, by decide, rfl, Lib.hid (fun h => absurd h (by decide)), Lib.hid (fun h => absurd h (by decide)), Lib.hid (fun h => absurd h (by decide)), Lib.hid (fun h => absurd h (by decide))⟩
    case round =>
      obtain ⟨k, hk, rfl, HO0, HO1, HO2, HO3⟩ := hrel
      rcases (show k = 0 ∨ k = 1 ∨ k = 2 ∨ k = 3 ∨ k = 4 by omega) with rfl | rfl | rfl | rfl | rfl
      · obtain ⟨b1, q1⟩ : ∃ b, decide (p0 < 0) = b := ⟨_, rfl⟩
        cases b1
        rotate_left
        · have H := Lib.hid (show colorR 4 p0 p1 p2 p3 = false by have h1 : partOk 4 0 p0 = false := (by simp [partOk, q1]); simp [colorR, h1])
          go_wp2
          go_ret
          exact ⟨by rw [H.out]; rfl, by (repeat' (first | (with_reducible first | exact Up.refl _ | assumption | refine Up.alloc ?_ _ | refine Up.drew ?_ | refine Up.drewN ?_ _ | refine Up.setCell ?_ ?_ _ | refine Up.call ?_ (by assumption)) | go_size))⟩
        obtain ⟨b2, q2⟩ : ∃ b, decide (65536 < p0) = b := ⟨_, rfl⟩
        cases b2
        rotate_left
        · have H := Lib.hid (show colorR 4 p0 p1 p2 p3 = false by have h1 : partOk 4 0 p0 = false := (by simp [partOk, q1, q2]); simp [colorR, h1])
          go_wp2
          go_ret
          exact ⟨by rw [H.out]; rfl, by (repeat' (first | (with_reducible first | exact Up.refl _ | assumption | refine Up.alloc ?_ _ | refine Up.drew ?_ | refine Up.drewN ?_ _ | refine Up.setCell ?_ ?_ _ | refine Up.call ?_ (by assumption)) | go_size))⟩
        have HO0 := Lib.hid (show partOk 4 0 p0 = true by simp [partOk, q1, q2])
        go_wp2
        go_roundw
        case rel => exact ⟨1, by decide, by go_num, Lib.hid (fun _ => HO0.out), Lib.hid (fun h => absurd h (by decide)), Lib.hid (fun h => absurd h (by decide)), Lib.hid (fun h => absurd h (by decide))⟩
        case measure => simp [intOf]
      · obtain ⟨b1, q1⟩ : ∃ b, decide (p1 < 0) = b := ⟨_, rfl⟩
        cases b1
        rotate_left
        · have H := Lib.hid (show colorR 4 p0 p1 p2 p3 = false by have h1 : partOk 4 1 p1 = false := (by simp [partOk, q1]); simp [colorR, h1])
          go_wp2
          go_ret
          exact ⟨by rw [H.out]; rfl, by (repeat' (first | (with_reducible first | exact Up.refl _ | assumption | refine Up.alloc ?_ _ | refine Up.drew ?_ | refine Up.drewN ?_ _ | refine Up.setCell ?_ ?_ _ | refine Up.call ?_ (by assumption)) | go_size))⟩
        obtain ⟨b2, q2⟩ : ∃ b, decide (65536 < p1) = b := ⟨_, rfl⟩
        cases b2
        rotate_left
        · have H := Lib.hid (show colorR 4 p0 p1 p2 p3 = false by have h1 : partOk 4 1 p1 = false := (by simp [partOk, q1, q2]); simp [colorR, h1])
          go_wp2
          go_ret
          exact ⟨by rw [H.out]; rfl, by (repeat' (first | (with_reducible first | exact Up.refl _ | assumption | refine Up.alloc ?_ _ | refine Up.drew ?_ | refine Up.drewN ?_ _ | refine Up.setCell ?_ ?_ _ | refine Up.call ?_ (by assumption)) | go_size))⟩
        have HO1 := Lib.hid (show partOk 4 1 p1 = true by simp [partOk, q1, q2])
        go_wp2
        go_roundw
        case rel => exact ⟨2, by decide, by go_num, Lib.hid (fun _ => HO0.out (by decide)), Lib.hid (fun _ => HO1.out), Lib.hid (fun h => absurd h (by decide)), Lib.hid (fun h => absurd h (by decide))⟩
        case measure => simp [intOf]
      · obtain ⟨b1, q1⟩ : ∃ b, decide (p2 < 0) = b := ⟨_, rfl⟩
        cases b1
        rotate_left
        · have H := Lib.hid (show colorR 4 p0 p1 p2 p3 = false by have h1 : partOk 4 2 p2 = false := (by simp [partOk, q1]); simp [colorR, h1])
          go_wp2
          go_ret
          exact ⟨by rw [H.out]; rfl, by (repeat' (first | (with_reducible first | exact Up.refl _ | assumption | refine Up.alloc ?_ _ | refine Up.drew ?_ | refine Up.drewN ?_ _ | refine Up.setCell ?_ ?_ _ | refine Up.call ?_ (by assumption)) | go_size))⟩
        obtain ⟨b2, q2⟩ : ∃ b, decide (65536 < p2) = b := ⟨_, rfl⟩
        cases b2
        rotate_left
        · have H := Lib.hid (show colorR 4 p0 p1 p2 p3 = false by have h1 : partOk 4 2 p2 = false := (by simp [partOk, q1, q2]); simp [colorR, h1])
          go_wp2
          go_ret
          exact ⟨by rw [H.out]; rfl, by (repeat' (first | (with_reducible first | exact Up.refl _ | assumption | refine Up.alloc ?_ _ | refine Up.drew ?_ | refine Up.drewN ?_ _ | refine Up.setCell ?_ ?_ _ | refine Up.call ?_ (by assumption)) | go_size))⟩
        have HO2 := Lib.hid (show partOk 4 2 p2 = true by simp [partOk, q1, q2])
        go_wp2
        go_roundw
        case rel => exact ⟨3, by decide, by go_num, Lib.hid (fun _ => HO0.out (by decide)), Lib.hid (fun _ => HO1.out (by decide)), Lib.hid (fun _ => HO2.out), Lib.hid (fun h => absurd h (by decide))⟩
        case measure => simp [intOf]
      · obtain ⟨b1, q1⟩ : ∃ b, decide (p3 < 0) = b := ⟨_, rfl⟩
        cases b1
        rotate_left
        · have H := Lib.hid (show colorR 4 p0 p1 p2 p3 = false by have h1 : partOk 4 3 p3 = false := (by simp [partOk, q1]); simp [colorR, h1])
          go_wp2
          go_ret
          exact ⟨by rw [H.out]; rfl, by (repeat' (first | (with_reducible first | exact Up.refl _ | assumption | refine Up.alloc ?_ _ | refine Up.drew ?_ | refine Up.drewN ?_ _ | refine Up.setCell ?_ ?_ _ | refine Up.call ?_ (by assumption)) | go_size))⟩
        obtain ⟨b2, q2⟩ : ∃ b, decide (65536 < p3) = b := ⟨_, rfl⟩
        cases b2
        rotate_left
        · have H := Lib.hid (show colorR 4 p0 p1 p2 p3 = false by have h1 : partOk 4 3 p3 = false := (by simp [partOk, q1, q2]); simp [colorR, h1])
          go_wp2
          go_ret
          exact ⟨by rw [H.out]; rfl, by (repeat' (first | (with_reducible first | exact Up.refl _ | assumption | refine Up.alloc ?_ _ | refine Up.drew ?_ | refine Up.drewN ?_ _ | refine Up.setCell ?_ ?_ _ | refine Up.call ?_ (by assumption)) | go_size))⟩
        have HO3 := Lib.hid (show partOk 4 3 p3 = true by simp [partOk, q1, q2])
        go_wp2
        go_roundw
        case rel => exact ⟨4, by decide, by go_num, Lib.hid (fun _ => HO0.out (by decide)), Lib.hid (fun _ => HO1.out (by decide)), Lib.hid (fun _ => HO2.out (by decide)), Lib.hid (fun _ => HO3.out)⟩
        case measure => simp [intOf]
      · have H := Lib.hid (show colorR 4 p0 p1 p2 p3 = true by simp [colorR, HS.out, HO0.out (by decide), HO1.out (by decide), HO2.out (by decide), HO3.out (by decide)])
        go_wp2
        go_ret
        exact ⟨by rw [H.out]; rfl, by (repeat' (first | (with_reducible first | exact Up.refl _ | assumption | refine Up.alloc ?_ _ | refine Up.drew ?_ | refine Up.drewN ?_ _ | refine Up.setCell ?_ ?_ _ | refine Up.call ?_ (by assumption)) | go_size))⟩

end Go.Proofs.YtpellcdggaeppaaGreatDoor.Pt
end

section
namespace Go.Proofs.YtpellcdggaeppaaGreatDoor.Pt
open Go.ChangeShapes Go.WideShapes Go.ChangeAt Go.RowKit
open Go.Proofs.YtpellcdggaeppaaGreatDoor.FixM (fits)
open Go.Proofs.YtpellcdggaeppaaGreatDoor.PathM (Seg sound)
open Go.Proofs.YtpellcdggaeppaaGreatDoor.MatM (M6)
set_option linter.unusedVariables false
set_option linter.unusedSimpArgs false

def idxG {α : Type} (p : α → Bool) (l : List α) : Int := if l.any p then (l.findIdx p : Int) else -1
theorem idxG_neg {α : Type} (p : α → Bool) (l : List α) : decide (0 ≤ idxG p l) = l.any p := by
  unfold idxG
  split
  · rename_i h; rw [h]; exact decide_eq_true (by omega)
  · rename_i h; simp at h ⊢; exact h
theorem idxG_hit {α : Type} {p : α → Bool} {l : List α} {k : Nat} {x : α} (hg : l[k]? = some x) (hn : (l.take k).any p = false) (hp : p x = true) : idxG p l = k := by
  obtain ⟨hlt, e⟩ := List.getElem?_eq_some_iff.1 hg
  have ha : l.any p = true := List.any_eq_true.2 ⟨x, List.mem_of_getElem? hg, hp⟩
  unfold idxG
  rw [if_pos ha]
  congr 1
  rw [List.findIdx_eq hlt]
  refine ⟨by rw [e]; exact hp, fun j hj => ?_⟩
  rw [List.any_eq_false] at hn
  have h2 := hn (l[j]'(by omega)) (List.mem_take_iff_getElem.2 ⟨j, by omega, rfl⟩)
  simpa using h2
theorem idxG_miss {α : Type} {p : α → Bool} {l : List α} {k : Nat} (hk : l.length ≤ k) (hn : (l.take k).any p = false) : idxG p l = -1 := by
  rw [List.take_of_length_le hk] at hn
  unfold idxG
  rw [hn]
  rfl
theorem any_step {α : Type} {p : α → Bool} {l : List α} {k : Nat} {x : α} (hg : l[k]? = some x) (hn : (l.take k).any p = false) (hp : p x = false) : (l.take (k + 1)).any p = false := by
  obtain ⟨hlt, e⟩ := List.getElem?_eq_some_iff.1 hg
  rw [List.take_succ_eq_append_getElem hlt, List.any_append, hn, e]
  simpa using hp
theorem all_step {α : Type} {p : α → Bool} {l : List α} {k : Nat} {x : α} (hg : l[k]? = some x) (hn : (l.take k).all p = true) (hp : p x = true) : (l.take (k + 1)).all p = true := by
  obtain ⟨hlt, e⟩ := List.getElem?_eq_some_iff.1 hg
  rw [List.take_succ_eq_append_getElem hlt, List.all_append, hn, e]
  simpa using hp
theorem sum_step {l : List Int} {k : Nat} {x : Int} (hg : l[k]? = some x) : (l.take (k + 1)).sum = (l.take k).sum + x := by
  obtain ⟨hlt, e⟩ := List.getElem?_eq_some_iff.1 hg
  rw [List.take_succ_eq_append_getElem hlt, List.sum_append, e]
  simp
theorem dash_sum : ∀ (l : List Int), l.all dashOk = true → 0 ≤ l.sum ∧ l.sum ≤ 2147483647 * l.length
  | [], _ => by simp
  | x :: l, h => by
    simp only [List.all_cons, Bool.and_eq_true] at h
    have h1 := dash_sum l h.2
    have h2 : 0 ≤ x ∧ x ≤ 2147483647 := by
      have := h.1
      simp only [dashOk, fits, Bool.and_eq_true, Bool.not_eq_true', decide_eq_false_iff_not, decide_eq_true_eq] at this
      omega
    simp only [List.sum_cons, List.length_cons]
    omega
theorem all_not {α : Type} (p : α → Bool) (l : List α) : l.all p = !l.any (fun x => !p x) := by
  induction l with
  | nil => rfl
  | cons x l ih => simp [ih]

set_option maxRecDepth 8000 in
set_option maxHeartbeats 1000000 in
theorem letters_calls (k : Int) (pa : Option Addr) (pl pc : Nat) (sp p0 p1 p2 p3 : Int) (ca : Option Addr) (cl cc : Nat) (wd cp jn mt : Int) (da : Option Addr) (dl dc : Nat) (ph fn : Int) (m : M6) (ba : Option Addr) (bl bc : Nat) (w : World) (hT : Font.Tab w) :
    Calls Tryz.prog 71 #[.agg #[.int .i64 k, .slice pa pl pc, .int .i64 sp, .int .i64 p0, .int .i64 p1, .int .i64 p2, .int .i64 p3, .slice ca cl cc, .int .i64 wd, .int .i64 cp, .int .i64 jn, .int .i64 mt, .slice da dl dc, .int .i64 ph, .int .i64 fn, .int .i64 m.a, .int .i64 m.b, .int .i64 m.c, .int .i64 m.d, .int .i64 m.x, .int .i64 m.y, .slice ba bl bc]] w fun E w' => E = .returned (.bool (lettersR fn m bl)) ∧ Up w w' := by
  have HT := Lib.hid hT
  clear hT
  obtain ⟨r, hr⟩ : ∃ r, ((lM m).any fun n => !fits n) = r := ⟨_, rfl⟩
  have HRR := Lib.hid hr
  by_cases hf : 0 ≤ fn ∧ fn < 14
  rotate_left
  · have H := Lib.hid (show lettersR fn m bl = false by simp only [lettersR, decide_eq_false hf, Bool.false_and])
    have HWL := Lib.hid (show (if 0 ≤ fn ∧ fn < 14 then Font.namesL.getD fn.toNat [] else []) = [] from if_neg hf)
    clear hf hr
    go_enter Tryz.func71, Tryz.ntmps71
    go_wp2_with (go_at_call 108; ((with_reducible refine (Font.name_calls _ _ (HT.out.up (by (repeat' (first | (with_reducible first | exact Up.refl _ | assumption | refine Up.alloc ?_ _ | refine Up.drew ?_ | refine Up.drewN ?_ _ | refine Up.setCell ?_ ?_ _ | refine Up.call ?_ (by assumption)) | go_size))))).mono ?_); rw [HWL.out]; rintro E w1 ⟨rfl, rfl⟩))
    go_ret
    exact ⟨by rw [H.out]; rfl, by (repeat' (first | (with_reducible first | exact Up.refl _ | assumption | refine Up.alloc ?_ _ | refine Up.drew ?_ | refine Up.drewN ?_ _ | refine Up.setCell ?_ ?_ _ | refine Up.call ?_ (by assumption)) | go_size))⟩
  obtain ⟨wl, hw, hne⟩ := names_some fn hf.1 hf.2
  have HWL := Lib.hid hw
  have h2 : wl.isEmpty = false := by simpa using hne
  have HF := Lib.hid hf
  clear hw hr hf
  obtain ⟨b_h3, h3⟩ : ∃ b, (decide ((1 : Int) ≤ (bl : Int))) = b := ⟨_, rfl⟩
  cases b_h3
  · have H := Lib.hid (show lettersR fn m bl = false by have h5 : decide (0 ≤ fn ∧ fn < 14) = true := decide_eq_true HF.out; have q3 : decide (1 ≤ bl) = decide ((1 : Int) ≤ (bl : Int)) := (by simp; omega); have q4 : decide (bl ≤ 65535) = decide ((bl : Int) ≤ 65535) := (by simp; omega); simp only [lettersR, h5, q3, q4, HRR.out, h3, Bool.true_and, Bool.false_and])
    go_enter Tryz.func71, Tryz.ntmps71
    go_wp2_with (first
      | (go_at_call 108; ((with_reducible refine (Font.name_calls _ _ (HT.out.up (by (repeat' (first | (with_reducible first | exact Up.refl _ | assumption | refine Up.alloc ?_ _ | refine Up.drew ?_ | refine Up.drewN ?_ _ | refine Up.setCell ?_ ?_ _ | refine Up.call ?_ (by assumption)) | go_size))))).mono ?_); rw [HWL.out]; rintro E w1 ⟨rfl, rfl⟩)))
    go_ret
    exact ⟨by rw [H.out]; rfl, by (repeat' (first | (with_reducible first | exact Up.refl _ | assumption | refine Up.alloc ?_ _ | refine Up.drew ?_ | refine Up.drewN ?_ _ | refine Up.setCell ?_ ?_ _ | refine Up.call ?_ (by assumption)) | go_size))⟩
  obtain ⟨b_h4, h4⟩ : ∃ b, (decide ((bl : Int) ≤ 65535)) = b := ⟨_, rfl⟩
  cases b_h4
  · have H := Lib.hid (show lettersR fn m bl = false by have h5 : decide (0 ≤ fn ∧ fn < 14) = true := decide_eq_true HF.out; have q3 : decide (1 ≤ bl) = decide ((1 : Int) ≤ (bl : Int)) := (by simp; omega); have q4 : decide (bl ≤ 65535) = decide ((bl : Int) ≤ 65535) := (by simp; omega); simp only [lettersR, h5, q3, q4, HRR.out, h3, h4, Bool.true_and, Bool.false_and])
    go_enter Tryz.func71, Tryz.ntmps71
    go_wp2_with (first
      | (go_at_call 108; ((with_reducible refine (Font.name_calls _ _ (HT.out.up (by (repeat' (first | (with_reducible first | exact Up.refl _ | assumption | refine Up.alloc ?_ _ | refine Up.drew ?_ | refine Up.drewN ?_ _ | refine Up.setCell ?_ ?_ _ | refine Up.call ?_ (by assumption)) | go_size))))).mono ?_); rw [HWL.out]; rintro E w1 ⟨rfl, rfl⟩)))
    go_ret
    exact ⟨by rw [H.out]; rfl, by (repeat' (first | (with_reducible first | exact Up.refl _ | assumption | refine Up.alloc ?_ _ | refine Up.drew ?_ | refine Up.drewN ?_ _ | refine Up.setCell ?_ ?_ _ | refine Up.call ?_ (by assumption)) | go_size))⟩
  have H := Lib.hid (show lettersR fn m bl = (!r) by have h5 : decide (0 ≤ fn ∧ fn < 14) = true := decide_eq_true HF.out; have q3 : decide (1 ≤ bl) = decide ((1 : Int) ≤ (bl : Int)) := (by simp; omega); have q4 : decide (bl ≤ 65535) = decide ((bl : Int) ≤ 65535) := (by simp; omega); simp only [lettersR, h5, q3, q4, HRR.out, h3, h4, Bool.true_and, Bool.false_and])
  go_enter Tryz.func71, Tryz.ntmps71
  go_wp2_with (first
    | (go_at_call 108; ((with_reducible refine (Font.name_calls _ _ (HT.out.up (by (repeat' (first | (with_reducible first | exact Up.refl _ | assumption | refine Up.alloc ?_ _ | refine Up.drew ?_ | refine Up.drewN ?_ _ | refine Up.setCell ?_ ?_ _ | refine Up.call ?_ (by assumption)) | go_size))))).mono ?_); rw [HWL.out]; rintro E w1 ⟨rfl, rfl⟩))
    | (go_at_call 109; ((with_reducible refine (contains_letters6 m w.heap.size _ _ (ints_mid (show Row _ w.heap.size #[.int .i64 k, .slice pa pl pc, .int .i64 sp, .int .i64 p0, .int .i64 p1, .int .i64 p2, .int .i64 p3, .slice ca cl cc, .int .i64 wd, .int .i64 cp, .int .i64 jn, .int .i64 mt, .slice da dl dc, .int .i64 ph, .int .i64 fn, .int .i64 m.a, .int .i64 m.b, .int .i64 m.c, .int .i64 m.d, .int .i64 m.x, .int .i64 m.y, .slice ba bl bc] by (repeat' (with_reducible first | assumption | (refine Row.at _ _ ?_; (simp; done)) | refine Row.alloc ?_ _ | refine Row.drew ?_ | refine Row.drewN ?_ _ | refine Row.other ?_ (by first | (simp; done) | (simp; omega) | omega) _ | refine Row.up ?_ (by assumption) | refine Row.chg ?_ (by assumption) (by first | (simp; done) | (simp; omega))))) rfl rfl rfl rfl rfl rfl) (by simp)).mono ?_); rw [HRR.out]; rintro E w2 ⟨rfl, hu2⟩)))
  go_ret
  exact ⟨by rw [H.out]; rfl, by (repeat' (first | (with_reducible first | exact Up.refl _ | assumption | refine Up.alloc ?_ _ | refine Up.drew ?_ | refine Up.drewN ?_ _ | refine Up.setCell ?_ ?_ _ | refine Up.call ?_ (by assumption)) | go_size))⟩

theorem ints_some {k : IntKind} {w : World} {a : Option Addr} {N c : Nat} {zs : List Int} (h : Ints k w (.slice a N c) zs) (hN : zs.length = N) (h0 : 0 < N) : ∃ g o, a = some ⟨g, o, none⟩ ∧ g < w.heap.size ∧ ∀ i, i < N → w.cell? ⟨g, o + i, none⟩ = some (.int k (zs.getD i 0)) := by
  obtain ⟨ao, c', e, hl, hm, hno, h1, hw⟩ := h
  injection e with e1 e2 e3
  subst e1 e3
  obtain ⟨g, o, h2, h3, h4⟩ := h1 (by omega)
  exact ⟨g, o, h2, h3, fun i hi => h4 i (by omega)⟩
set_option maxRecDepth 8000 in
set_option maxHeartbeats 4000000 in
theorem pen_calls (wd cp jn mt ph : Int) (da : Option Addr) (dl dc : Nat) (ds : List Int) (w : World) (hN : ds.length = dl) (hd : Ints .i64 w (.slice da dl dc) ds) :
    Calls Tryz.prog 74 #[.agg #[.int .i64 wd, .int .i64 cp, .int .i64 jn, .int .i64 mt, .slice da dl dc, .int .i64 ph]] w fun E w' => E = .returned (.bool (penR wd cp jn mt ds ph)) ∧ Up w w' := by
  have HN := Lib.hid hN
  have HD := Lib.hid hd
  clear hN hd
  obtain ⟨b_h1, h1⟩ : ∃ b, (decide (wd < 0)) = b := ⟨_, rfl⟩
  cases b_h1
  rotate_left
  · have H := Lib.hid (show penR wd cp jn mt ds ph = false by have e : penB wd cp jn mt ds.length ph = true := (by simp only [penB, HN.out, h1]; simp); simp only [penR, e, Bool.not_true, Bool.false_and])
    go_enter Tryz.func74, Tryz.ntmps74
    go_wp2_with (go_at_call 111; ((with_reducible refine (Fix.fits_calls _ _).mono ?_); rintro e w' ⟨rfl, rfl⟩))
    go_ret
    exact ⟨by rw [H.out]; rfl, by (repeat' (first | (with_reducible first | exact Up.refl _ | assumption | refine Up.alloc ?_ _ | refine Up.drew ?_ | refine Up.drewN ?_ _ | refine Up.setCell ?_ ?_ _ | refine Up.call ?_ (by assumption)) | go_size))⟩
  obtain ⟨b_h2, h2⟩ : ∃ b, (fits wd) = b := ⟨_, rfl⟩
  cases b_h2
  · have H := Lib.hid (show penR wd cp jn mt ds ph = false by have e : penB wd cp jn mt ds.length ph = true := (by simp only [penB, HN.out, h1, h2]; simp); simp only [penR, e, Bool.not_true, Bool.false_and])
    go_enter Tryz.func74, Tryz.ntmps74
    go_wp2_with (go_at_call 111; ((with_reducible refine (Fix.fits_calls _ _).mono ?_); rintro e w' ⟨rfl, rfl⟩))
    go_ret
    exact ⟨by rw [H.out]; rfl, by (repeat' (first | (with_reducible first | exact Up.refl _ | assumption | refine Up.alloc ?_ _ | refine Up.drew ?_ | refine Up.drewN ?_ _ | refine Up.setCell ?_ ?_ _ | refine Up.call ?_ (by assumption)) | go_size))⟩
  obtain ⟨b_h3, h3⟩ : ∃ b, (decide (cp < 0)) = b := ⟨_, rfl⟩
  cases b_h3
  rotate_left
  · have H := Lib.hid (show penR wd cp jn mt ds ph = false by have e : penB wd cp jn mt ds.length ph = true := (by simp only [penB, HN.out, h1, h2, h3]; simp); simp only [penR, e, Bool.not_true, Bool.false_and])
    go_enter Tryz.func74, Tryz.ntmps74
    go_wp2_with (go_at_call 111; ((with_reducible refine (Fix.fits_calls _ _).mono ?_); rintro e w' ⟨rfl, rfl⟩))
    go_ret
    exact ⟨by rw [H.out]; rfl, by (repeat' (first | (with_reducible first | exact Up.refl _ | assumption | refine Up.alloc ?_ _ | refine Up.drew ?_ | refine Up.drewN ?_ _ | refine Up.setCell ?_ ?_ _ | refine Up.call ?_ (by assumption)) | go_size))⟩
  obtain ⟨b_h4, h4⟩ : ∃ b, (decide (2 < cp)) = b := ⟨_, rfl⟩
  cases b_h4
  rotate_left
  · have H := Lib.hid (show penR wd cp jn mt ds ph = false by have e : penB wd cp jn mt ds.length ph = true := (by simp only [penB, HN.out, h1, h2, h3, h4]; simp); simp only [penR, e, Bool.not_true, Bool.false_and])
    go_enter Tryz.func74, Tryz.ntmps74
    go_wp2_with (go_at_call 111; ((with_reducible refine (Fix.fits_calls _ _).mono ?_); rintro e w' ⟨rfl, rfl⟩))
    go_ret
    exact ⟨by rw [H.out]; rfl, by (repeat' (first | (with_reducible first | exact Up.refl _ | assumption | refine Up.alloc ?_ _ | refine Up.drew ?_ | refine Up.drewN ?_ _ | refine Up.setCell ?_ ?_ _ | refine Up.call ?_ (by assumption)) | go_size))⟩
  obtain ⟨b_h5, h5⟩ : ∃ b, (decide (jn < 0)) = b := ⟨_, rfl⟩
  cases b_h5
  rotate_left
  · have H := Lib.hid (show penR wd cp jn mt ds ph = false by have e : penB wd cp jn mt ds.length ph = true := (by simp only [penB, HN.out, h1, h2, h3, h4, h5]; simp); simp only [penR, e, Bool.not_true, Bool.false_and])
    go_enter Tryz.func74, Tryz.ntmps74
    go_wp2_with (go_at_call 111; ((with_reducible refine (Fix.fits_calls _ _).mono ?_); rintro e w' ⟨rfl, rfl⟩))
    go_ret
    exact ⟨by rw [H.out]; rfl, by (repeat' (first | (with_reducible first | exact Up.refl _ | assumption | refine Up.alloc ?_ _ | refine Up.drew ?_ | refine Up.drewN ?_ _ | refine Up.setCell ?_ ?_ _ | refine Up.call ?_ (by assumption)) | go_size))⟩
  obtain ⟨b_h6, h6⟩ : ∃ b, (decide (2 < jn)) = b := ⟨_, rfl⟩
  cases b_h6
  rotate_left
  · have H := Lib.hid (show penR wd cp jn mt ds ph = false by have e : penB wd cp jn mt ds.length ph = true := (by simp only [penB, HN.out, h1, h2, h3, h4, h5, h6]; simp); simp only [penR, e, Bool.not_true, Bool.false_and])
    go_enter Tryz.func74, Tryz.ntmps74
    go_wp2_with (go_at_call 111; ((with_reducible refine (Fix.fits_calls _ _).mono ?_); rintro e w' ⟨rfl, rfl⟩))
    go_ret
    exact ⟨by rw [H.out]; rfl, by (repeat' (first | (with_reducible first | exact Up.refl _ | assumption | refine Up.alloc ?_ _ | refine Up.drew ?_ | refine Up.drewN ?_ _ | refine Up.setCell ?_ ?_ _ | refine Up.call ?_ (by assumption)) | go_size))⟩
  obtain ⟨b_h7, h7⟩ : ∃ b, (decide (mt < 65536)) = b := ⟨_, rfl⟩
  cases b_h7
  rotate_left
  · have H := Lib.hid (show penR wd cp jn mt ds ph = false by have e : penB wd cp jn mt ds.length ph = true := (by simp only [penB, HN.out, h1, h2, h3, h4, h5, h6, h7]; simp); simp only [penR, e, Bool.not_true, Bool.false_and])
    go_enter Tryz.func74, Tryz.ntmps74
    go_wp2_with (go_at_call 111; ((with_reducible refine (Fix.fits_calls _ _).mono ?_); rintro e w' ⟨rfl, rfl⟩))
    go_ret
    exact ⟨by rw [H.out]; rfl, by (repeat' (first | (with_reducible first | exact Up.refl _ | assumption | refine Up.alloc ?_ _ | refine Up.drew ?_ | refine Up.drewN ?_ _ | refine Up.setCell ?_ ?_ _ | refine Up.call ?_ (by assumption)) | go_size))⟩
  obtain ⟨b_h8, h8⟩ : ∃ b, (fits mt) = b := ⟨_, rfl⟩
  cases b_h8
  · have H := Lib.hid (show penR wd cp jn mt ds ph = false by have e : penB wd cp jn mt ds.length ph = true := (by simp only [penB, HN.out, h1, h2, h3, h4, h5, h6, h7, h8]; simp); simp only [penR, e, Bool.not_true, Bool.false_and])
    go_enter Tryz.func74, Tryz.ntmps74
    go_wp2_with (go_at_call 111; ((with_reducible refine (Fix.fits_calls _ _).mono ?_); rintro e w' ⟨rfl, rfl⟩))
    go_ret
    exact ⟨by rw [H.out]; rfl, by (repeat' (first | (with_reducible first | exact Up.refl _ | assumption | refine Up.alloc ?_ _ | refine Up.drew ?_ | refine Up.drewN ?_ _ | refine Up.setCell ?_ ?_ _ | refine Up.call ?_ (by assumption)) | go_size))⟩
  obtain ⟨b_h9, h9⟩ : ∃ b, (decide (ph < 0)) = b := ⟨_, rfl⟩
  cases b_h9
  rotate_left
  · have H := Lib.hid (show penR wd cp jn mt ds ph = false by have e : penB wd cp jn mt ds.length ph = true := (by simp only [penB, HN.out, h1, h2, h3, h4, h5, h6, h7, h8, h9]; simp); simp only [penR, e, Bool.not_true, Bool.false_and])
    go_enter Tryz.func74, Tryz.ntmps74
    go_wp2_with (go_at_call 111; ((with_reducible refine (Fix.fits_calls _ _).mono ?_); rintro e w' ⟨rfl, rfl⟩))
    go_ret
    exact ⟨by rw [H.out]; rfl, by (repeat' (first | (with_reducible first | exact Up.refl _ | assumption | refine Up.alloc ?_ _ | refine Up.drew ?_ | refine Up.drewN ?_ _ | refine Up.setCell ?_ ?_ _ | refine Up.call ?_ (by assumption)) | go_size))⟩
  obtain ⟨b_h10, h10⟩ : ∃ b, (fits ph) = b := ⟨_, rfl⟩
  cases b_h10
  · have H := Lib.hid (show penR wd cp jn mt ds ph = false by have e : penB wd cp jn mt ds.length ph = true := (by simp only [penB, HN.out, h1, h2, h3, h4, h5, h6, h7, h8, h9, h10]; simp); simp only [penR, e, Bool.not_true, Bool.false_and])
    go_enter Tryz.func74, Tryz.ntmps74
    go_wp2_with (go_at_call 111; ((with_reducible refine (Fix.fits_calls _ _).mono ?_); rintro e w' ⟨rfl, rfl⟩))
    go_ret
    exact ⟨by rw [H.out]; rfl, by (repeat' (first | (with_reducible first | exact Up.refl _ | assumption | refine Up.alloc ?_ _ | refine Up.drew ?_ | refine Up.drewN ?_ _ | refine Up.setCell ?_ ?_ _ | refine Up.call ?_ (by assumption)) | go_size))⟩
  obtain ⟨b_h11, h11⟩ : ∃ b, (decide ((11 : Int) < (dl : Int))) = b := ⟨_, rfl⟩
  cases b_h11
  rotate_left
  · have H := Lib.hid (show penR wd cp jn mt ds ph = false by have e : penB wd cp jn mt ds.length ph = true := (by simp only [penB, HN.out, h1, h2, h3, h4, h5, h6, h7, h8, h9, h10, h11]; simp); simp only [penR, e, Bool.not_true, Bool.false_and])
    go_enter Tryz.func74, Tryz.ntmps74
    go_wp2_with (go_at_call 111; ((with_reducible refine (Fix.fits_calls _ _).mono ?_); rintro e w' ⟨rfl, rfl⟩))
    go_ret
    exact ⟨by rw [H.out]; rfl, by (repeat' (first | (with_reducible first | exact Up.refl _ | assumption | refine Up.alloc ?_ _ | refine Up.drew ?_ | refine Up.drewN ?_ _ | refine Up.setCell ?_ ?_ _ | refine Up.call ?_ (by assumption)) | go_size))⟩
  have HB := Lib.hid (show penB wd cp jn mt ds.length ph = false by simp only [penB, HN.out, h1, h2, h3, h4, h5, h6, h7, h8, h9, h10, h11]; simp)
  have hd11 : dl ≤ 11 := by have := h11; simp at this; omega
  have HZD := Lib.hid (show (dl == 0) = ((dl : Int) == 0) by cases dl <;> simp <;> omega)
  go_enter Tryz.func74, Tryz.ntmps74
  go_wp2_with (go_at_call 111; ((with_reducible refine (Fix.fits_calls _ _).mono ?_); rintro e w' ⟨rfl, rfl⟩))
  go_loop [3, 66] (fun s3 s66 => ∃ k : Nat, k ≤ dl ∧ s3 = .int .i64 (ds.take k).sum ∧ s66 = .int .i64 k ∧ Hid ((ds.take k).all dashOk = true)) (fun _ s66 => dl - (intOf s66).toNat)
  case atStart => exact ⟨0, Nat.zero_le _, by simp, rfl, Lib.hid (by simp)⟩
  case round =>
    obtain ⟨k, hk, rfl, rfl, HA⟩ := hrel
    obtain ⟨S, hS⟩ : ∃ S, (ds.take k).sum = S := ⟨_, rfl⟩
    rw [hS]
    have HSB := Lib.hid (show 0 ≤ S ∧ S ≤ 2147483647 * 11 by
      have h1 := dash_sum _ HA.out
      rw [hS] at h1
      have h2 : (ds.take k).length ≤ 11 := by rw [List.length_take]; omega
      constructor
      · exact h1.1
      · have : (2147483647 : Int) * ((ds.take k).length : Int) ≤ 2147483647 * 11 := by omega
        omega)
    have HS := Lib.hid hS
    clear hS
    by_cases hlt : k < dl
    · obtain ⟨x, hx⟩ : ∃ x, ds[k]? = some x := ⟨_, List.getElem?_eq_getElem (by have := HN.out; omega)⟩
      obtain ⟨gb, ob, rfl, hgb, hcb⟩ := ints_some HD.out HN.out (by omega)
      have hq : w.cell? ⟨gb, ob + k, none⟩ = some (.int .i64 x) := by
        rw [hcb k hlt]
        have : ds.getD k 0 = x := by rw [List.getD_eq_getElem?_getD, hx]; rfl
        rw [this]
      have hgb1 : gb < w.heap.size + 1 := by omega
      have HX := Lib.hid hx
      have hcast : decide ((k : Int) < (dl : Int)) = true := decide_eq_true (by omega)
      clear hx hcb
      have bad : dashOk x = false → Hid (penR wd cp jn mt ds ph = false) := fun h => Lib.hid (by
        have e : ds.all dashOk = false := by
          rw [List.all_eq_false]
          exact ⟨x, List.mem_of_getElem? HX.out, by simp [h]⟩
        simp [penR, e])
      have HBAD := Lib.hid bad
      clear bad
      obtain ⟨b1, q1⟩ : ∃ b, decide (x < 0) = b := ⟨_, rfl⟩
      cases b1
      rotate_left
      · have H := HBAD.out (by simp [dashOk, q1])
        go_wp2_with (go_at_call 111; ((with_reducible refine (Fix.fits_calls _ _).mono ?_); rintro e w' ⟨rfl, rfl⟩))
        go_ret
        exact ⟨by rw [H.out]; rfl, by (repeat' (first | (with_reducible first | exact Up.refl _ | assumption | refine Up.alloc ?_ _ | refine Up.drew ?_ | refine Up.drewN ?_ _ | refine Up.setCell ?_ ?_ _ | refine Up.call ?_ (by assumption)) | go_size))⟩
      obtain ⟨b2, q2⟩ : ∃ b, fits x = b := ⟨_, rfl⟩
      cases b2
      · have H := HBAD.out (by simp [dashOk, q1, q2])
        go_wp2_with (go_at_call 111; ((with_reducible refine (Fix.fits_calls _ _).mono ?_); rintro e w' ⟨rfl, rfl⟩))
        go_ret
        exact ⟨by rw [H.out]; rfl, by (repeat' (first | (with_reducible first | exact Up.refl _ | assumption | refine Up.alloc ?_ _ | refine Up.drew ?_ | refine Up.drewN ?_ _ | refine Up.setCell ?_ ?_ _ | refine Up.call ?_ (by assumption)) | go_size))⟩
      have HOK := Lib.hid (show dashOk x = true by simp [dashOk, q1, q2])
      have hw : IntKind.i64.wrap (S + x) = S + x := by
        have h1 := HSB.out
        have h2 : x ≤ 2147483647 := by have := q2; simp only [fits, Bool.and_eq_true, decide_eq_true_eq] at this; omega
        have h3 : 0 ≤ x := by have := q1; simp at this; omega
        exact wrap_small (by omega) (by omega)
      go_wp2_with (go_at_call 111; ((with_reducible refine (Fix.fits_calls _ _).mono ?_); rintro e w' ⟨rfl, rfl⟩))
      go_roundw
      case rel => exact ⟨k + 1, by omega, by rw [sum_step HX.out, HS.out], by go_num, Lib.hid (all_step HX.out HA.out HOK.out)⟩
      case measure => simp [intOf]; omega
    · have hcast : decide ((k : Int) < (dl : Int)) = false := decide_eq_false (by omega)
      have HALL := Lib.hid (show ds.all dashOk = true by have := HA.out; rwa [List.take_of_length_le (by have := HN.out; omega)] at this)
      have HSUM := Lib.hid (show ds.sum = S by have := HS.out; rwa [List.take_of_length_le (by have := HN.out; omega)] at this)
      have HR := Lib.hid (show penR wd cp jn mt ds ph = (((dl : Int) == 0) || decide (0 < S)) by have h1 := HB.out; rw [HN.out] at h1; simp only [penR, HN.out, h1, HALL.out, HSUM.out, Bool.not_false, Bool.true_and]; rw [HZD.out])
      obtain ⟨b1, q1⟩ : ∃ b, ((dl : Int) == 0) = b := ⟨_, rfl⟩
      have Q1 := Lib.hid q1
      obtain ⟨b2, q2⟩ : ∃ b, decide (0 < S) = b := ⟨_, rfl⟩
      have Q2 := Lib.hid q2
      cases b1
      · go_wp2
        go_ret
        exact ⟨by rw [HR.out, Q1.out, Q2.out]; rfl, by (repeat' (first | (with_reducible first | exact Up.refl _ | assumption | refine Up.alloc ?_ _ | refine Up.drew ?_ | refine Up.drewN ?_ _ | refine Up.setCell ?_ ?_ _ | refine Up.call ?_ (by assumption)) | go_size))⟩
      · go_wp2
        go_ret
        exact ⟨by rw [HR.out, Q1.out]; rfl, by (repeat' (first | (with_reducible first | exact Up.refl _ | assumption | refine Up.alloc ?_ _ | refine Up.drew ?_ | refine Up.drewN ?_ _ | refine Up.setCell ?_ ?_ _ | refine Up.call ?_ (by assumption)) | go_size))⟩

theorem clip1_calls (v : Value) (l : List Seg) (eo : Bool) (w : World) (h : Path.SegV w v l) :
    Calls Tryz.prog 107 #[.agg #[v, .bool eo]] w fun E w' => E = .returned (.bool (!clipOk ⟨v, l, eo⟩)) ∧ Up w w' := by
  have H := Lib.hid h
  obtain ⟨a, n, c, rfl, hn⟩ : ∃ a n c, v = .slice a n c ∧ n = l.length := by
    rcases h with ⟨a, cap, rfl, rfl⟩ | ⟨b, o, cap, rfl, h0, _⟩
    · exact ⟨_, _, _, rfl, rfl⟩
    · exact ⟨_, _, _, rfl, rfl⟩
  have HN := Lib.hid hn
  clear h hn
  obtain ⟨b1, q1⟩ : ∃ b, ((n : Int) == 0) = b := ⟨_, rfl⟩
  have HQ := Lib.hid (show (l.length == 0) = b1 by rw [← HN.out, ← q1]; cases n <;> simp <;> omega)
  cases b1
  · go_enter Tryz.func107, Tryz.ntmps107
    go_wp2_with (go_at_call 73; ((with_reducible refine (Path.sound_calls _ l _ (H.out.up (by (repeat' (first | (with_reducible first | exact Up.refl _ | assumption | refine Up.alloc ?_ _ | refine Up.drew ?_ | refine Up.drewN ?_ _ | refine Up.setCell ?_ ?_ _ | refine Up.call ?_ (by assumption)) | go_size))))).mono ?_); rintro E w1 ⟨rfl, hu1⟩))
    go_ret
    exact ⟨by simp [clipOk, HQ.out], by (repeat' (first | (with_reducible first | exact Up.refl _ | assumption | refine Up.alloc ?_ _ | refine Up.drew ?_ | refine Up.drewN ?_ _ | refine Up.setCell ?_ ?_ _ | refine Up.call ?_ (by assumption)) | go_size))⟩
  · go_enter Tryz.func107, Tryz.ntmps107
    go_wp2
    go_ret
    exact ⟨by simp [clipOk, HQ.out], by (repeat' (first | (with_reducible first | exact Up.refl _ | assumption | refine Up.alloc ?_ _ | refine Up.drew ?_ | refine Up.drewN ?_ _ | refine Up.setCell ?_ ?_ _ | refine Up.call ?_ (by assumption)) | go_size))⟩
theorem index_clips (l : List Clip) (a : Option Addr) (n c : Nat) (w : World) (h : Sl 2 Clip.cells w a n c l) (hs : ∀ c ∈ l, Path.SegV w c.v c.l) (hl : n ≤ 1000) :
    Calls Tryz.prog 143 #[.slice a n c, .func (.func 107) #[] #[]] w fun e w' => e = .returned (.int .i64 (idxG (fun c => !clipOk c) l)) ∧ Up w w' := by
  obtain ⟨h1, h2, h3, h4, h5⟩ := h
  have HN := Lib.hid h3
  have HC := Lib.hid h5
  have HS := Lib.hid hs
  clear h3 h5 hs h4
  go_enter Tryz.func143, Tryz.ntmps143
  go_wp2
  go_loopw [8] (fun i wr => ∃ k : Nat, k ≤ n ∧ i = .int .i64 k ∧ Hid ((l.take k).any (fun c => !clipOk c) = false) ∧ Up w wr) (fun i _ => n - (intOf i).toNat)
  case atStart => exact ⟨0, Nat.zero_le _, rfl, Lib.hid (by simp), Up.refl _⟩
  case round =>
    obtain ⟨k, hk, rfl, HNO, hup⟩ := hrel
    by_cases hlt : k < n
    · obtain ⟨⟨v, sl, eo⟩, hx⟩ : ∃ x, l[k]? = some x := ⟨_, List.getElem?_eq_getElem (by have := HN.out; omega)⟩
      obtain ⟨b, o, rfl, hb, hc⟩ := HC.out (by omega)
      have hc0 := hc k _ 0 _ hx rfl
      have hc1 := hc k _ 1 _ hx rfl
      simp only [Clip.cells, Nat.add_zero] at hc0 hc1
      have hq0 := (hup.cells.1 b _ hb).trans hc0
      have hq1 := (hup.cells.1 b _ hb).trans hc1
      have hz := hup.size
      have HSV := Lib.hid ((HS.out _ (List.mem_of_getElem? hx)).up hup)
      have HX := Lib.hid hx
      have hcast : decide ((k : Int) < (n : Int)) = true := decide_eq_true (by omega)
      clear hc0 hc1 hc hx
      obtain ⟨t, ht⟩ : ∃ t, (!clipOk ⟨v, sl, eo⟩) = t := ⟨_, rfl⟩
      have HT := Lib.hid ht
      clear ht
      cases t
      · go_wp2_with (go_at_call 107; ((with_reducible refine (clip1_calls v sl eo _ HSV.out).mono ?_); rw [HT.out]; rintro E w1 ⟨rfl, hu1⟩))
        go_roundw
        case rel => exact ⟨k + 1, by omega, by go_num, Lib.hid (any_step HX.out HNO.out HT.out), by (repeat' (first | (with_reducible first | exact Up.refl _ | assumption | refine Up.alloc ?_ _ | refine Up.drew ?_ | refine Up.drewN ?_ _ | refine Up.setCell ?_ ?_ _ | refine Up.call ?_ (by assumption)) | go_size))⟩
        case measure => simp [intOf]; omega
      · have HE := Lib.hid (idxG_hit HX.out HNO.out HT.out)
        go_wp2_with (go_at_call 107; ((with_reducible refine (clip1_calls v sl eo _ HSV.out).mono ?_); rw [HT.out]; rintro E w1 ⟨rfl, hu1⟩))
        go_ret
        exact ⟨by rw [HE.out]; rfl, by (repeat' (first | (with_reducible first | exact Up.refl _ | assumption | refine Up.alloc ?_ _ | refine Up.drew ?_ | refine Up.drewN ?_ _ | refine Up.setCell ?_ ?_ _ | refine Up.call ?_ (by assumption)) | go_size))⟩
    · have HE := Lib.hid (idxG_miss (by have := HN.out; omega) HNO.out)
      have hcast : decide ((k : Int) < (n : Int)) = false := decide_eq_false (by omega)
      go_wp2
      go_ret
      exact ⟨by rw [HE.out]; rfl, by (repeat' (first | (with_reducible first | exact Up.refl _ | assumption | refine Up.alloc ?_ _ | refine Up.drew ?_ | refine Up.drewN ?_ _ | refine Up.setCell ?_ ?_ _ | refine Up.call ?_ (by assumption)) | go_size))⟩
theorem contains_clips (l : List Clip) (a : Option Addr) (n c : Nat) (w : World) (h : Sl 2 Clip.cells w a n c l) (hs : ∀ c ∈ l, Path.SegV w c.v c.l) (hl : n ≤ 1000) :
    Calls Tryz.prog 106 #[.slice a n c, .func (.func 107) #[] #[]] w fun e w' => e = .returned (.bool (l.any (fun c => !clipOk c))) ∧ Up w w' := by
  have HI := Lib.hid (idxG_neg (fun c => !clipOk c) l)
  have H := Lib.hid h
  have HS := Lib.hid hs
  clear h hs
  go_enter Tryz.func106, Tryz.ntmps106
  go_wp2_with (go_at_call 143; ((with_reducible refine (index_clips l a n c _ H.out HS.out hl).mono ?_); rintro E w1 ⟨rfl, hu1⟩))
  go_ret
  exact ⟨by rw [← HI.out]; rfl, by (repeat' (first | (with_reducible first | exact Up.refl _ | assumption | refine Up.alloc ?_ _ | refine Up.drew ?_ | refine Up.drewN ?_ _ | refine Up.setCell ?_ ?_ _ | refine Up.call ?_ (by assumption)) | go_size))⟩
theorem clips_calls (l : List Clip) (a : Option Addr) (n c : Nat) (w : World) (h : Sl 2 Clip.cells w a n c l) (hs : ∀ c ∈ l, Path.SegV w c.v c.l) :
    Calls Tryz.prog 70 #[.slice a n c] w fun e w' => e = .returned (.bool (clipsR l)) ∧ Up w w' := by
  have HN := Lib.hid h.2.2.1
  have H := Lib.hid h
  have HS := Lib.hid hs
  clear h hs
  by_cases h16 : n ≤ 16
  · have hcast : decide ((n : Int) ≤ 16) = true := decide_eq_true (by omega)
    have HR := Lib.hid (show clipsR l = !l.any (fun c => !clipOk c) by rw [clipsR, all_not, HN.out, decide_eq_true h16, Bool.true_and])
    go_enter Tryz.func70, Tryz.ntmps70
    go_wp2_with (go_at_call 106; ((with_reducible refine (contains_clips l a n c _ H.out HS.out (by omega)).mono ?_); rintro E w1 ⟨rfl, hu1⟩))
    go_ret
    exact ⟨by rw [HR.out]; rfl, by (repeat' (first | (with_reducible first | exact Up.refl _ | assumption | refine Up.alloc ?_ _ | refine Up.drew ?_ | refine Up.drewN ?_ _ | refine Up.setCell ?_ ?_ _ | refine Up.call ?_ (by assumption)) | go_size))⟩
  · have hcast : decide ((n : Int) ≤ 16) = false := decide_eq_false (by omega)
    have HR := Lib.hid (show clipsR l = false by rw [clipsR, HN.out, decide_eq_false h16, Bool.false_and])
    go_enter Tryz.func70, Tryz.ntmps70
    go_wp2
    go_ret
    exact ⟨by rw [HR.out]; rfl, by (repeat' (first | (with_reducible first | exact Up.refl _ | assumption | refine Up.alloc ?_ _ | refine Up.drew ?_ | refine Up.drewN ?_ _ | refine Up.setCell ?_ ?_ _ | refine Up.call ?_ (by assumption)) | go_size))⟩

end Go.Proofs.YtpellcdggaeppaaGreatDoor.Pt
end

section
namespace Go.Proofs.YtpellcdggaeppaaGreatDoor.Pt
open Go.ChangeShapes Go.WideShapes Go.ChangeAt Go.RowKit
open Go.Proofs.YtpellcdggaeppaaGreatDoor.FixM (fits)
open Go.Proofs.YtpellcdggaeppaaGreatDoor.PathM (Seg sound)
open Go.Proofs.YtpellcdggaeppaaGreatDoor.MatM (M6)
set_option linter.unusedVariables false
set_option linter.unusedSimpArgs false

theorem infoItem : (Tryz.prog.info? 50).map (·.size) = some 22 := by kernel_rfl
/-- an item's lists, where its cells say -/
structure Lists (w : World) (pa : Option Addr) (pl pc : Nat) (ca : Option Addr) (cl cc : Nat) (da : Option Addr) (dl dc : Nat) (ba : Option Addr) (bl bc : Nat) (l : List Seg) (cs : List Clip) (ds bs : List Int) : Prop where
  pv : Path.SegV w (.slice pa pl pc) l
  pn : l.length = pl
  sl : Sl 2 Clip.cells w ca cl cc cs
  sv : ∀ c ∈ cs, Path.SegV w c.v c.l
  dn : ds.length = dl
  dv : Ints .i64 w (.slice da dl dc) ds
  bn : bs.length = bl
theorem Lists.up {w w1 : World} {pa : Option Addr} {pl pc : Nat} {ca : Option Addr} {cl cc : Nat} {da : Option Addr} {dl dc : Nat} {ba : Option Addr} {bl bc : Nat} {l : List Seg} {cs : List Clip} {ds bs : List Int} (h : Lists w pa pl pc ca cl cc da dl dc ba bl bc l cs ds bs) (hu : Up w w1) : Lists w1 pa pl pc ca cl cc da dl dc ba bl bc l cs ds bs :=
  ⟨h.pv.up hu, h.pn, sl_up h.sl hu, fun c hc => (h.sv c hc).up hu, h.dn, h.dv.up hu, h.bn⟩
theorem segV_len {w : World} {v : Value} {l : List Seg} (h : Path.SegV w v l) : ∃ a c, v = .slice a l.length c := by
  rcases h with ⟨a, cap, rfl, rfl⟩ | ⟨b, o, cap, rfl, _⟩
  · exact ⟨_, _, rfl⟩
  · exact ⟨_, _, rfl⟩
/-- an item's cells, and its lists -/
theorem item_lists {w : World} {i : Item} (h : i.is w) : ∃ pa pl pc ca cl cc da dl dc ba bl bc, i.pv = .slice pa pl pc ∧ i.cv = .slice ca cl cc ∧ i.dv = .slice da dl dc ∧ i.bv = .slice ba bl bc ∧ Lists w pa pl pc ca cl cc da dl dc ba bl bc i.l i.cl i.ds i.bs := by
  obtain ⟨h1, ⟨ca, cl, cc, e2, h2, h3⟩, h4, h5⟩ := h
  obtain ⟨pa, pc, e1⟩ := segV_len h1
  obtain ⟨da, dc, e4, _⟩ := id h4
  obtain ⟨ba, bc, e5, _⟩ := id h5
  exact ⟨pa, _, pc, ca, cl, cc, da, _, dc, ba, _, bc, e1, e2, e4, e5, ⟨e1 ▸ h1, rfl, h2, h3, rfl, e4 ▸ h4, rfl⟩⟩

set_option maxRecDepth 8000 in
set_option maxHeartbeats 8000000 in
theorem item_calls (k : Int) (pa : Option Addr) (pl pc : Nat) (sp p0 p1 p2 p3 : Int) (ca : Option Addr) (cl cc : Nat) (wd cp jn mt : Int) (da : Option Addr) (dl dc : Nat) (ph fn : Int) (m : M6) (ba : Option Addr) (bl bc : Nat) (l : List Seg) (cs : List Clip) (ds bs : List Int) (tC tK tL tN tP tS tM : Bool) (w : World) (hL : Lists w pa pl pc ca cl cc da dl dc ba bl bc l cs ds bs) (hT : Font.Tab w)
    (hC : colorR sp p0 p1 p2 p3 = tC) (hK : clipsR cs = tK) (hLT : lettersR fn m bl = tL) (hNO : noneR wd cp jn mt dl ph = tN) (hPN : penR wd cp jn mt ds ph = tP) (hSO : sound l = tS) (hM : m0 m = tM) :
    Calls Tryz.prog 41 #[.agg #[.int .i64 k, .slice pa pl pc, .int .i64 sp, .int .i64 p0, .int .i64 p1, .int .i64 p2, .int .i64 p3, .slice ca cl cc, .int .i64 wd, .int .i64 cp, .int .i64 jn, .int .i64 mt, .slice da dl dc, .int .i64 ph, .int .i64 fn, .int .i64 m.a, .int .i64 m.b, .int .i64 m.c, .int .i64 m.d, .int .i64 m.x, .int .i64 m.y, .slice ba bl bc]] w fun E w' => E = .returned (.bool (itemB tC tK tL tN tP tS tM k fn pl bl)) ∧ Up w w' := by
  have HL := Lib.hid hL
  have HT := Lib.hid hT
  have HC := Lib.hid hC
  have HK := Lib.hid hK
  have HLT := Lib.hid hLT
  have HNO := Lib.hid hNO
  have HPN := Lib.hid hPN
  have HSO := Lib.hid hSO
  have heq : ∀ W : World, (Op.equalIn 10000 48 (.agg #[.int .i64 m.a, .int .i64 m.b, .int .i64 m.c, .int .i64 m.d, .int .i64 m.x, .int .i64 m.y]) (.agg #[.int .i64 0, .int .i64 0, .int .i64 0, .int .i64 0, .int .i64 0, .int .i64 0])).run Tryz.prog W = .ok tM W := fun W => by
    rw [run_eq6]
    exact congrArg (fun b => Result.ok b W) hM
  clear hL hT hC hK hLT hNO hPN hSO hM
  cases tC
  · have H := Lib.hid (show itemB false tK tL tN tP tS tM k fn pl bl = false by simp only [itemB] <;> simp)
    go_enter Tryz.func41, Tryz.ntmps41
    go_wp2_with (first
      | (go_at_call 69; ((with_reducible refine (color_calls sp p0 p1 p2 p3 _).mono ?_); rw [HC.out]; rintro E w1 ⟨rfl, hu1⟩; have z1 := hu1.size; (try simp at z1); have Rw1 : Row w1 w.heap.size #[.int .i64 k, .slice pa pl pc, .int .i64 sp, .int .i64 p0, .int .i64 p1, .int .i64 p2, .int .i64 p3, .slice ca cl cc, .int .i64 wd, .int .i64 cp, .int .i64 jn, .int .i64 mt, .slice da dl dc, .int .i64 ph, .int .i64 fn, .int .i64 m.a, .int .i64 m.b, .int .i64 m.c, .int .i64 m.d, .int .i64 m.x, .int .i64 m.y, .slice ba bl bc] := Row.up (show Row _ w.heap.size #[.int .i64 k, .slice pa pl pc, .int .i64 sp, .int .i64 p0, .int .i64 p1, .int .i64 p2, .int .i64 p3, .slice ca cl cc, .int .i64 wd, .int .i64 cp, .int .i64 jn, .int .i64 mt, .slice da dl dc, .int .i64 ph, .int .i64 fn, .int .i64 m.a, .int .i64 m.b, .int .i64 m.c, .int .i64 m.d, .int .i64 m.x, .int .i64 m.y, .slice ba bl bc] by (repeat' (with_reducible first | assumption | (refine Row.at _ _ ?_; (simp; done)) | refine Row.alloc ?_ _ | refine Row.drew ?_ | refine Row.drewN ?_ _ | refine Row.other ?_ (by first | (simp; done) | (simp; omega) | omega) _ | refine Row.up ?_ (by assumption) | refine Row.chg ?_ (by assumption) (by first | (simp; done) | (simp; omega))))) hu1; have lw1 := Rw1.lt; have qw1_0 : w1.cell? ⟨w.heap.size, 0, none⟩ = some (.int .i64 k) := Rw1.cell 0 rfl; have qw1_1 : w1.cell? ⟨w.heap.size, 1, none⟩ = some (.slice pa pl pc) := Rw1.cell 1 rfl; have qw1_7 : w1.cell? ⟨w.heap.size, 7, none⟩ = some (.slice ca cl cc) := Rw1.cell 7 rfl; have qw1_8 : w1.cell? ⟨w.heap.size, 8, none⟩ = some (.int .i64 wd) := Rw1.cell 8 rfl; have qw1_9 : w1.cell? ⟨w.heap.size, 9, none⟩ = some (.int .i64 cp) := Rw1.cell 9 rfl; have qw1_10 : w1.cell? ⟨w.heap.size, 10, none⟩ = some (.int .i64 jn) := Rw1.cell 10 rfl; have qw1_11 : w1.cell? ⟨w.heap.size, 11, none⟩ = some (.int .i64 mt) := Rw1.cell 11 rfl; have qw1_12 : w1.cell? ⟨w.heap.size, 12, none⟩ = some (.slice da dl dc) := Rw1.cell 12 rfl; have qw1_13 : w1.cell? ⟨w.heap.size, 13, none⟩ = some (.int .i64 ph) := Rw1.cell 13 rfl; have qw1_14 : w1.cell? ⟨w.heap.size, 14, none⟩ = some (.int .i64 fn) := Rw1.cell 14 rfl; have qw1_15 : w1.cell? ⟨w.heap.size, 15, none⟩ = some (.int .i64 m.a) := Rw1.cell 15 rfl; have qw1_16 : w1.cell? ⟨w.heap.size, 16, none⟩ = some (.int .i64 m.b) := Rw1.cell 16 rfl; have qw1_17 : w1.cell? ⟨w.heap.size, 17, none⟩ = some (.int .i64 m.c) := Rw1.cell 17 rfl; have qw1_18 : w1.cell? ⟨w.heap.size, 18, none⟩ = some (.int .i64 m.d) := Rw1.cell 18 rfl; have qw1_19 : w1.cell? ⟨w.heap.size, 19, none⟩ = some (.int .i64 m.x) := Rw1.cell 19 rfl; have qw1_20 : w1.cell? ⟨w.heap.size, 20, none⟩ = some (.int .i64 m.y) := Rw1.cell 20 rfl; have qw1_21 : w1.cell? ⟨w.heap.size, 21, none⟩ = some (.slice ba bl bc) := Rw1.cell 21 rfl)))
    go_ret
    exact ⟨by rw [H.out]; rfl, by (repeat' (first | (with_reducible first | exact Up.refl _ | assumption | refine Up.alloc ?_ _ | refine Up.drew ?_ | refine Up.drewN ?_ _ | refine Up.setCell ?_ ?_ _ | refine Up.call ?_ (by assumption)) | go_size))⟩
  cases tK
  · have H := Lib.hid (show itemB true false tL tN tP tS tM k fn pl bl = false by simp only [itemB] <;> simp)
    go_enter Tryz.func41, Tryz.ntmps41
    go_wp2_with (first
      | (go_at_call 69; ((with_reducible refine (color_calls sp p0 p1 p2 p3 _).mono ?_); rw [HC.out]; rintro E w1 ⟨rfl, hu1⟩; have z1 := hu1.size; (try simp at z1); have Rw1 : Row w1 w.heap.size #[.int .i64 k, .slice pa pl pc, .int .i64 sp, .int .i64 p0, .int .i64 p1, .int .i64 p2, .int .i64 p3, .slice ca cl cc, .int .i64 wd, .int .i64 cp, .int .i64 jn, .int .i64 mt, .slice da dl dc, .int .i64 ph, .int .i64 fn, .int .i64 m.a, .int .i64 m.b, .int .i64 m.c, .int .i64 m.d, .int .i64 m.x, .int .i64 m.y, .slice ba bl bc] := Row.up (show Row _ w.heap.size #[.int .i64 k, .slice pa pl pc, .int .i64 sp, .int .i64 p0, .int .i64 p1, .int .i64 p2, .int .i64 p3, .slice ca cl cc, .int .i64 wd, .int .i64 cp, .int .i64 jn, .int .i64 mt, .slice da dl dc, .int .i64 ph, .int .i64 fn, .int .i64 m.a, .int .i64 m.b, .int .i64 m.c, .int .i64 m.d, .int .i64 m.x, .int .i64 m.y, .slice ba bl bc] by (repeat' (with_reducible first | assumption | (refine Row.at _ _ ?_; (simp; done)) | refine Row.alloc ?_ _ | refine Row.drew ?_ | refine Row.drewN ?_ _ | refine Row.other ?_ (by first | (simp; done) | (simp; omega) | omega) _ | refine Row.up ?_ (by assumption) | refine Row.chg ?_ (by assumption) (by first | (simp; done) | (simp; omega))))) hu1; have lw1 := Rw1.lt; have qw1_0 : w1.cell? ⟨w.heap.size, 0, none⟩ = some (.int .i64 k) := Rw1.cell 0 rfl; have qw1_1 : w1.cell? ⟨w.heap.size, 1, none⟩ = some (.slice pa pl pc) := Rw1.cell 1 rfl; have qw1_7 : w1.cell? ⟨w.heap.size, 7, none⟩ = some (.slice ca cl cc) := Rw1.cell 7 rfl; have qw1_8 : w1.cell? ⟨w.heap.size, 8, none⟩ = some (.int .i64 wd) := Rw1.cell 8 rfl; have qw1_9 : w1.cell? ⟨w.heap.size, 9, none⟩ = some (.int .i64 cp) := Rw1.cell 9 rfl; have qw1_10 : w1.cell? ⟨w.heap.size, 10, none⟩ = some (.int .i64 jn) := Rw1.cell 10 rfl; have qw1_11 : w1.cell? ⟨w.heap.size, 11, none⟩ = some (.int .i64 mt) := Rw1.cell 11 rfl; have qw1_12 : w1.cell? ⟨w.heap.size, 12, none⟩ = some (.slice da dl dc) := Rw1.cell 12 rfl; have qw1_13 : w1.cell? ⟨w.heap.size, 13, none⟩ = some (.int .i64 ph) := Rw1.cell 13 rfl; have qw1_14 : w1.cell? ⟨w.heap.size, 14, none⟩ = some (.int .i64 fn) := Rw1.cell 14 rfl; have qw1_15 : w1.cell? ⟨w.heap.size, 15, none⟩ = some (.int .i64 m.a) := Rw1.cell 15 rfl; have qw1_16 : w1.cell? ⟨w.heap.size, 16, none⟩ = some (.int .i64 m.b) := Rw1.cell 16 rfl; have qw1_17 : w1.cell? ⟨w.heap.size, 17, none⟩ = some (.int .i64 m.c) := Rw1.cell 17 rfl; have qw1_18 : w1.cell? ⟨w.heap.size, 18, none⟩ = some (.int .i64 m.d) := Rw1.cell 18 rfl; have qw1_19 : w1.cell? ⟨w.heap.size, 19, none⟩ = some (.int .i64 m.x) := Rw1.cell 19 rfl; have qw1_20 : w1.cell? ⟨w.heap.size, 20, none⟩ = some (.int .i64 m.y) := Rw1.cell 20 rfl; have qw1_21 : w1.cell? ⟨w.heap.size, 21, none⟩ = some (.slice ba bl bc) := Rw1.cell 21 rfl))
      | (go_at_call 70; ((with_reducible refine (clips_calls cs ca cl cc _ (HL.out.up (by (repeat' (first | (with_reducible first | exact Up.refl _ | assumption | refine Up.alloc ?_ _ | refine Up.drew ?_ | refine Up.drewN ?_ _ | refine Up.setCell ?_ ?_ _ | refine Up.call ?_ (by assumption)) | go_size)))).sl (HL.out.up (by (repeat' (first | (with_reducible first | exact Up.refl _ | assumption | refine Up.alloc ?_ _ | refine Up.drew ?_ | refine Up.drewN ?_ _ | refine Up.setCell ?_ ?_ _ | refine Up.call ?_ (by assumption)) | go_size)))).sv).mono ?_); rw [HK.out]; rintro E w2 ⟨rfl, hu2⟩; have z2 := hu2.size; have Rw2 : Row w2 w.heap.size #[.int .i64 k, .slice pa pl pc, .int .i64 sp, .int .i64 p0, .int .i64 p1, .int .i64 p2, .int .i64 p3, .slice ca cl cc, .int .i64 wd, .int .i64 cp, .int .i64 jn, .int .i64 mt, .slice da dl dc, .int .i64 ph, .int .i64 fn, .int .i64 m.a, .int .i64 m.b, .int .i64 m.c, .int .i64 m.d, .int .i64 m.x, .int .i64 m.y, .slice ba bl bc] := Row.up (show Row _ w.heap.size #[.int .i64 k, .slice pa pl pc, .int .i64 sp, .int .i64 p0, .int .i64 p1, .int .i64 p2, .int .i64 p3, .slice ca cl cc, .int .i64 wd, .int .i64 cp, .int .i64 jn, .int .i64 mt, .slice da dl dc, .int .i64 ph, .int .i64 fn, .int .i64 m.a, .int .i64 m.b, .int .i64 m.c, .int .i64 m.d, .int .i64 m.x, .int .i64 m.y, .slice ba bl bc] by (repeat' (with_reducible first | assumption | (refine Row.at _ _ ?_; (simp; done)) | refine Row.alloc ?_ _ | refine Row.drew ?_ | refine Row.drewN ?_ _ | refine Row.other ?_ (by first | (simp; done) | (simp; omega) | omega) _ | refine Row.up ?_ (by assumption) | refine Row.chg ?_ (by assumption) (by first | (simp; done) | (simp; omega))))) hu2; have lw2 := Rw2.lt; have qw2_0 : w2.cell? ⟨w.heap.size, 0, none⟩ = some (.int .i64 k) := Rw2.cell 0 rfl; have qw2_1 : w2.cell? ⟨w.heap.size, 1, none⟩ = some (.slice pa pl pc) := Rw2.cell 1 rfl; have qw2_7 : w2.cell? ⟨w.heap.size, 7, none⟩ = some (.slice ca cl cc) := Rw2.cell 7 rfl; have qw2_8 : w2.cell? ⟨w.heap.size, 8, none⟩ = some (.int .i64 wd) := Rw2.cell 8 rfl; have qw2_9 : w2.cell? ⟨w.heap.size, 9, none⟩ = some (.int .i64 cp) := Rw2.cell 9 rfl; have qw2_10 : w2.cell? ⟨w.heap.size, 10, none⟩ = some (.int .i64 jn) := Rw2.cell 10 rfl; have qw2_11 : w2.cell? ⟨w.heap.size, 11, none⟩ = some (.int .i64 mt) := Rw2.cell 11 rfl; have qw2_12 : w2.cell? ⟨w.heap.size, 12, none⟩ = some (.slice da dl dc) := Rw2.cell 12 rfl; have qw2_13 : w2.cell? ⟨w.heap.size, 13, none⟩ = some (.int .i64 ph) := Rw2.cell 13 rfl; have qw2_14 : w2.cell? ⟨w.heap.size, 14, none⟩ = some (.int .i64 fn) := Rw2.cell 14 rfl; have qw2_15 : w2.cell? ⟨w.heap.size, 15, none⟩ = some (.int .i64 m.a) := Rw2.cell 15 rfl; have qw2_16 : w2.cell? ⟨w.heap.size, 16, none⟩ = some (.int .i64 m.b) := Rw2.cell 16 rfl; have qw2_17 : w2.cell? ⟨w.heap.size, 17, none⟩ = some (.int .i64 m.c) := Rw2.cell 17 rfl; have qw2_18 : w2.cell? ⟨w.heap.size, 18, none⟩ = some (.int .i64 m.d) := Rw2.cell 18 rfl; have qw2_19 : w2.cell? ⟨w.heap.size, 19, none⟩ = some (.int .i64 m.x) := Rw2.cell 19 rfl; have qw2_20 : w2.cell? ⟨w.heap.size, 20, none⟩ = some (.int .i64 m.y) := Rw2.cell 20 rfl; have qw2_21 : w2.cell? ⟨w.heap.size, 21, none⟩ = some (.slice ba bl bc) := Rw2.cell 21 rfl)))
    go_ret
    exact ⟨by rw [H.out]; rfl, by (repeat' (first | (with_reducible first | exact Up.refl _ | assumption | refine Up.alloc ?_ _ | refine Up.drew ?_ | refine Up.drewN ?_ _ | refine Up.setCell ?_ ?_ _ | refine Up.call ?_ (by assumption)) | go_size))⟩
  by_cases hk : k = 4
  · subst hk
    cases tL
    · have H := Lib.hid (show itemB true true false tN tP tS tM 4 fn pl bl = false by simp only [itemB] <;> simp)
      go_enter Tryz.func41, Tryz.ntmps41
      go_wp2_with (first
        | (go_at_call 69; ((with_reducible refine (color_calls sp p0 p1 p2 p3 _).mono ?_); rw [HC.out]; rintro E w1 ⟨rfl, hu1⟩; have z1 := hu1.size; (try simp at z1); have Rw1 : Row w1 w.heap.size #[.int .i64 4, .slice pa pl pc, .int .i64 sp, .int .i64 p0, .int .i64 p1, .int .i64 p2, .int .i64 p3, .slice ca cl cc, .int .i64 wd, .int .i64 cp, .int .i64 jn, .int .i64 mt, .slice da dl dc, .int .i64 ph, .int .i64 fn, .int .i64 m.a, .int .i64 m.b, .int .i64 m.c, .int .i64 m.d, .int .i64 m.x, .int .i64 m.y, .slice ba bl bc] := Row.up (show Row _ w.heap.size #[.int .i64 4, .slice pa pl pc, .int .i64 sp, .int .i64 p0, .int .i64 p1, .int .i64 p2, .int .i64 p3, .slice ca cl cc, .int .i64 wd, .int .i64 cp, .int .i64 jn, .int .i64 mt, .slice da dl dc, .int .i64 ph, .int .i64 fn, .int .i64 m.a, .int .i64 m.b, .int .i64 m.c, .int .i64 m.d, .int .i64 m.x, .int .i64 m.y, .slice ba bl bc] by (repeat' (with_reducible first | assumption | (refine Row.at _ _ ?_; (simp; done)) | refine Row.alloc ?_ _ | refine Row.drew ?_ | refine Row.drewN ?_ _ | refine Row.other ?_ (by first | (simp; done) | (simp; omega) | omega) _ | refine Row.up ?_ (by assumption) | refine Row.chg ?_ (by assumption) (by first | (simp; done) | (simp; omega))))) hu1; have lw1 := Rw1.lt; have qw1_0 : w1.cell? ⟨w.heap.size, 0, none⟩ = some (.int .i64 4) := Rw1.cell 0 rfl; have qw1_1 : w1.cell? ⟨w.heap.size, 1, none⟩ = some (.slice pa pl pc) := Rw1.cell 1 rfl; have qw1_7 : w1.cell? ⟨w.heap.size, 7, none⟩ = some (.slice ca cl cc) := Rw1.cell 7 rfl; have qw1_8 : w1.cell? ⟨w.heap.size, 8, none⟩ = some (.int .i64 wd) := Rw1.cell 8 rfl; have qw1_9 : w1.cell? ⟨w.heap.size, 9, none⟩ = some (.int .i64 cp) := Rw1.cell 9 rfl; have qw1_10 : w1.cell? ⟨w.heap.size, 10, none⟩ = some (.int .i64 jn) := Rw1.cell 10 rfl; have qw1_11 : w1.cell? ⟨w.heap.size, 11, none⟩ = some (.int .i64 mt) := Rw1.cell 11 rfl; have qw1_12 : w1.cell? ⟨w.heap.size, 12, none⟩ = some (.slice da dl dc) := Rw1.cell 12 rfl; have qw1_13 : w1.cell? ⟨w.heap.size, 13, none⟩ = some (.int .i64 ph) := Rw1.cell 13 rfl; have qw1_14 : w1.cell? ⟨w.heap.size, 14, none⟩ = some (.int .i64 fn) := Rw1.cell 14 rfl; have qw1_15 : w1.cell? ⟨w.heap.size, 15, none⟩ = some (.int .i64 m.a) := Rw1.cell 15 rfl; have qw1_16 : w1.cell? ⟨w.heap.size, 16, none⟩ = some (.int .i64 m.b) := Rw1.cell 16 rfl; have qw1_17 : w1.cell? ⟨w.heap.size, 17, none⟩ = some (.int .i64 m.c) := Rw1.cell 17 rfl; have qw1_18 : w1.cell? ⟨w.heap.size, 18, none⟩ = some (.int .i64 m.d) := Rw1.cell 18 rfl; have qw1_19 : w1.cell? ⟨w.heap.size, 19, none⟩ = some (.int .i64 m.x) := Rw1.cell 19 rfl; have qw1_20 : w1.cell? ⟨w.heap.size, 20, none⟩ = some (.int .i64 m.y) := Rw1.cell 20 rfl; have qw1_21 : w1.cell? ⟨w.heap.size, 21, none⟩ = some (.slice ba bl bc) := Rw1.cell 21 rfl))
        | (go_at_call 70; ((with_reducible refine (clips_calls cs ca cl cc _ (HL.out.up (by (repeat' (first | (with_reducible first | exact Up.refl _ | assumption | refine Up.alloc ?_ _ | refine Up.drew ?_ | refine Up.drewN ?_ _ | refine Up.setCell ?_ ?_ _ | refine Up.call ?_ (by assumption)) | go_size)))).sl (HL.out.up (by (repeat' (first | (with_reducible first | exact Up.refl _ | assumption | refine Up.alloc ?_ _ | refine Up.drew ?_ | refine Up.drewN ?_ _ | refine Up.setCell ?_ ?_ _ | refine Up.call ?_ (by assumption)) | go_size)))).sv).mono ?_); rw [HK.out]; rintro E w2 ⟨rfl, hu2⟩; have z2 := hu2.size; have Rw2 : Row w2 w.heap.size #[.int .i64 4, .slice pa pl pc, .int .i64 sp, .int .i64 p0, .int .i64 p1, .int .i64 p2, .int .i64 p3, .slice ca cl cc, .int .i64 wd, .int .i64 cp, .int .i64 jn, .int .i64 mt, .slice da dl dc, .int .i64 ph, .int .i64 fn, .int .i64 m.a, .int .i64 m.b, .int .i64 m.c, .int .i64 m.d, .int .i64 m.x, .int .i64 m.y, .slice ba bl bc] := Row.up (show Row _ w.heap.size #[.int .i64 4, .slice pa pl pc, .int .i64 sp, .int .i64 p0, .int .i64 p1, .int .i64 p2, .int .i64 p3, .slice ca cl cc, .int .i64 wd, .int .i64 cp, .int .i64 jn, .int .i64 mt, .slice da dl dc, .int .i64 ph, .int .i64 fn, .int .i64 m.a, .int .i64 m.b, .int .i64 m.c, .int .i64 m.d, .int .i64 m.x, .int .i64 m.y, .slice ba bl bc] by (repeat' (with_reducible first | assumption | (refine Row.at _ _ ?_; (simp; done)) | refine Row.alloc ?_ _ | refine Row.drew ?_ | refine Row.drewN ?_ _ | refine Row.other ?_ (by first | (simp; done) | (simp; omega) | omega) _ | refine Row.up ?_ (by assumption) | refine Row.chg ?_ (by assumption) (by first | (simp; done) | (simp; omega))))) hu2; have lw2 := Rw2.lt; have qw2_0 : w2.cell? ⟨w.heap.size, 0, none⟩ = some (.int .i64 4) := Rw2.cell 0 rfl; have qw2_1 : w2.cell? ⟨w.heap.size, 1, none⟩ = some (.slice pa pl pc) := Rw2.cell 1 rfl; have qw2_7 : w2.cell? ⟨w.heap.size, 7, none⟩ = some (.slice ca cl cc) := Rw2.cell 7 rfl; have qw2_8 : w2.cell? ⟨w.heap.size, 8, none⟩ = some (.int .i64 wd) := Rw2.cell 8 rfl; have qw2_9 : w2.cell? ⟨w.heap.size, 9, none⟩ = some (.int .i64 cp) := Rw2.cell 9 rfl; have qw2_10 : w2.cell? ⟨w.heap.size, 10, none⟩ = some (.int .i64 jn) := Rw2.cell 10 rfl; have qw2_11 : w2.cell? ⟨w.heap.size, 11, none⟩ = some (.int .i64 mt) := Rw2.cell 11 rfl; have qw2_12 : w2.cell? ⟨w.heap.size, 12, none⟩ = some (.slice da dl dc) := Rw2.cell 12 rfl; have qw2_13 : w2.cell? ⟨w.heap.size, 13, none⟩ = some (.int .i64 ph) := Rw2.cell 13 rfl; have qw2_14 : w2.cell? ⟨w.heap.size, 14, none⟩ = some (.int .i64 fn) := Rw2.cell 14 rfl; have qw2_15 : w2.cell? ⟨w.heap.size, 15, none⟩ = some (.int .i64 m.a) := Rw2.cell 15 rfl; have qw2_16 : w2.cell? ⟨w.heap.size, 16, none⟩ = some (.int .i64 m.b) := Rw2.cell 16 rfl; have qw2_17 : w2.cell? ⟨w.heap.size, 17, none⟩ = some (.int .i64 m.c) := Rw2.cell 17 rfl; have qw2_18 : w2.cell? ⟨w.heap.size, 18, none⟩ = some (.int .i64 m.d) := Rw2.cell 18 rfl; have qw2_19 : w2.cell? ⟨w.heap.size, 19, none⟩ = some (.int .i64 m.x) := Rw2.cell 19 rfl; have qw2_20 : w2.cell? ⟨w.heap.size, 20, none⟩ = some (.int .i64 m.y) := Rw2.cell 20 rfl; have qw2_21 : w2.cell? ⟨w.heap.size, 21, none⟩ = some (.slice ba bl bc) := Rw2.cell 21 rfl))
        | (refine wpList_load_Row rfl 50 (.tmp 1) rfl (w.heap.size) rfl #[.int .i64 4, .slice pa pl pc, .int .i64 sp, .int .i64 p0, .int .i64 p1, .int .i64 p2, .int .i64 p3, .slice ca cl cc, .int .i64 wd, .int .i64 cp, .int .i64 jn, .int .i64 mt, .slice da dl dc, .int .i64 ph, .int .i64 fn, .int .i64 m.a, .int .i64 m.b, .int .i64 m.c, .int .i64 m.d, .int .i64 m.x, .int .i64 m.y, .slice ba bl bc] _ Rw2 Tryz.underlying50 rfl infoItem rfl ?_)
        | (go_at_call 71; ((with_reducible refine (letters_calls 4 pa pl pc sp p0 p1 p2 p3 ca cl cc wd cp jn mt da dl dc ph fn m ba bl bc _ (HT.out.up (by (repeat' (first | (with_reducible first | exact Up.refl _ | assumption | refine Up.alloc ?_ _ | refine Up.drew ?_ | refine Up.drewN ?_ _ | refine Up.setCell ?_ ?_ _ | refine Up.call ?_ (by assumption)) | go_size))))).mono ?_); rw [HLT.out]; rintro E w3 ⟨rfl, hu3⟩; have z3 := hu3.size; have Rw3 : Row w3 w.heap.size #[.int .i64 4, .slice pa pl pc, .int .i64 sp, .int .i64 p0, .int .i64 p1, .int .i64 p2, .int .i64 p3, .slice ca cl cc, .int .i64 wd, .int .i64 cp, .int .i64 jn, .int .i64 mt, .slice da dl dc, .int .i64 ph, .int .i64 fn, .int .i64 m.a, .int .i64 m.b, .int .i64 m.c, .int .i64 m.d, .int .i64 m.x, .int .i64 m.y, .slice ba bl bc] := Row.up (show Row _ w.heap.size #[.int .i64 4, .slice pa pl pc, .int .i64 sp, .int .i64 p0, .int .i64 p1, .int .i64 p2, .int .i64 p3, .slice ca cl cc, .int .i64 wd, .int .i64 cp, .int .i64 jn, .int .i64 mt, .slice da dl dc, .int .i64 ph, .int .i64 fn, .int .i64 m.a, .int .i64 m.b, .int .i64 m.c, .int .i64 m.d, .int .i64 m.x, .int .i64 m.y, .slice ba bl bc] by (repeat' (with_reducible first | assumption | (refine Row.at _ _ ?_; (simp; done)) | refine Row.alloc ?_ _ | refine Row.drew ?_ | refine Row.drewN ?_ _ | refine Row.other ?_ (by first | (simp; done) | (simp; omega) | omega) _ | refine Row.up ?_ (by assumption) | refine Row.chg ?_ (by assumption) (by first | (simp; done) | (simp; omega))))) hu3; have lw3 := Rw3.lt; have qw3_0 : w3.cell? ⟨w.heap.size, 0, none⟩ = some (.int .i64 4) := Rw3.cell 0 rfl; have qw3_1 : w3.cell? ⟨w.heap.size, 1, none⟩ = some (.slice pa pl pc) := Rw3.cell 1 rfl; have qw3_7 : w3.cell? ⟨w.heap.size, 7, none⟩ = some (.slice ca cl cc) := Rw3.cell 7 rfl; have qw3_8 : w3.cell? ⟨w.heap.size, 8, none⟩ = some (.int .i64 wd) := Rw3.cell 8 rfl; have qw3_9 : w3.cell? ⟨w.heap.size, 9, none⟩ = some (.int .i64 cp) := Rw3.cell 9 rfl; have qw3_10 : w3.cell? ⟨w.heap.size, 10, none⟩ = some (.int .i64 jn) := Rw3.cell 10 rfl; have qw3_11 : w3.cell? ⟨w.heap.size, 11, none⟩ = some (.int .i64 mt) := Rw3.cell 11 rfl; have qw3_12 : w3.cell? ⟨w.heap.size, 12, none⟩ = some (.slice da dl dc) := Rw3.cell 12 rfl; have qw3_13 : w3.cell? ⟨w.heap.size, 13, none⟩ = some (.int .i64 ph) := Rw3.cell 13 rfl; have qw3_14 : w3.cell? ⟨w.heap.size, 14, none⟩ = some (.int .i64 fn) := Rw3.cell 14 rfl; have qw3_15 : w3.cell? ⟨w.heap.size, 15, none⟩ = some (.int .i64 m.a) := Rw3.cell 15 rfl; have qw3_16 : w3.cell? ⟨w.heap.size, 16, none⟩ = some (.int .i64 m.b) := Rw3.cell 16 rfl; have qw3_17 : w3.cell? ⟨w.heap.size, 17, none⟩ = some (.int .i64 m.c) := Rw3.cell 17 rfl; have qw3_18 : w3.cell? ⟨w.heap.size, 18, none⟩ = some (.int .i64 m.d) := Rw3.cell 18 rfl; have qw3_19 : w3.cell? ⟨w.heap.size, 19, none⟩ = some (.int .i64 m.x) := Rw3.cell 19 rfl; have qw3_20 : w3.cell? ⟨w.heap.size, 20, none⟩ = some (.int .i64 m.y) := Rw3.cell 20 rfl; have qw3_21 : w3.cell? ⟨w.heap.size, 21, none⟩ = some (.slice ba bl bc) := Rw3.cell 21 rfl)))
      go_ret
      exact ⟨by rw [H.out]; rfl, by (repeat' (first | (with_reducible first | exact Up.refl _ | assumption | refine Up.alloc ?_ _ | refine Up.drew ?_ | refine Up.drewN ?_ _ | refine Up.setCell ?_ ?_ _ | refine Up.call ?_ (by assumption)) | go_size))⟩
    obtain ⟨b_h1, h1⟩ : ∃ b, ((pl : Int) == 0) = b := ⟨_, rfl⟩
    cases b_h1
    · have H := Lib.hid (show itemB true true true tN tP tS tM 4 fn pl bl = false by simp only [itemB, h1] <;> simp)
      go_enter Tryz.func41, Tryz.ntmps41
      go_wp2_with (first
        | (go_at_call 69; ((with_reducible refine (color_calls sp p0 p1 p2 p3 _).mono ?_); rw [HC.out]; rintro E w1 ⟨rfl, hu1⟩; have z1 := hu1.size; (try simp at z1); have Rw1 : Row w1 w.heap.size #[.int .i64 4, .slice pa pl pc, .int .i64 sp, .int .i64 p0, .int .i64 p1, .int .i64 p2, .int .i64 p3, .slice ca cl cc, .int .i64 wd, .int .i64 cp, .int .i64 jn, .int .i64 mt, .slice da dl dc, .int .i64 ph, .int .i64 fn, .int .i64 m.a, .int .i64 m.b, .int .i64 m.c, .int .i64 m.d, .int .i64 m.x, .int .i64 m.y, .slice ba bl bc] := Row.up (show Row _ w.heap.size #[.int .i64 4, .slice pa pl pc, .int .i64 sp, .int .i64 p0, .int .i64 p1, .int .i64 p2, .int .i64 p3, .slice ca cl cc, .int .i64 wd, .int .i64 cp, .int .i64 jn, .int .i64 mt, .slice da dl dc, .int .i64 ph, .int .i64 fn, .int .i64 m.a, .int .i64 m.b, .int .i64 m.c, .int .i64 m.d, .int .i64 m.x, .int .i64 m.y, .slice ba bl bc] by (repeat' (with_reducible first | assumption | (refine Row.at _ _ ?_; (simp; done)) | refine Row.alloc ?_ _ | refine Row.drew ?_ | refine Row.drewN ?_ _ | refine Row.other ?_ (by first | (simp; done) | (simp; omega) | omega) _ | refine Row.up ?_ (by assumption) | refine Row.chg ?_ (by assumption) (by first | (simp; done) | (simp; omega))))) hu1; have lw1 := Rw1.lt; have qw1_0 : w1.cell? ⟨w.heap.size, 0, none⟩ = some (.int .i64 4) := Rw1.cell 0 rfl; have qw1_1 : w1.cell? ⟨w.heap.size, 1, none⟩ = some (.slice pa pl pc) := Rw1.cell 1 rfl; have qw1_7 : w1.cell? ⟨w.heap.size, 7, none⟩ = some (.slice ca cl cc) := Rw1.cell 7 rfl; have qw1_8 : w1.cell? ⟨w.heap.size, 8, none⟩ = some (.int .i64 wd) := Rw1.cell 8 rfl; have qw1_9 : w1.cell? ⟨w.heap.size, 9, none⟩ = some (.int .i64 cp) := Rw1.cell 9 rfl; have qw1_10 : w1.cell? ⟨w.heap.size, 10, none⟩ = some (.int .i64 jn) := Rw1.cell 10 rfl; have qw1_11 : w1.cell? ⟨w.heap.size, 11, none⟩ = some (.int .i64 mt) := Rw1.cell 11 rfl; have qw1_12 : w1.cell? ⟨w.heap.size, 12, none⟩ = some (.slice da dl dc) := Rw1.cell 12 rfl; have qw1_13 : w1.cell? ⟨w.heap.size, 13, none⟩ = some (.int .i64 ph) := Rw1.cell 13 rfl; have qw1_14 : w1.cell? ⟨w.heap.size, 14, none⟩ = some (.int .i64 fn) := Rw1.cell 14 rfl; have qw1_15 : w1.cell? ⟨w.heap.size, 15, none⟩ = some (.int .i64 m.a) := Rw1.cell 15 rfl; have qw1_16 : w1.cell? ⟨w.heap.size, 16, none⟩ = some (.int .i64 m.b) := Rw1.cell 16 rfl; have qw1_17 : w1.cell? ⟨w.heap.size, 17, none⟩ = some (.int .i64 m.c) := Rw1.cell 17 rfl; have qw1_18 : w1.cell? ⟨w.heap.size, 18, none⟩ = some (.int .i64 m.d) := Rw1.cell 18 rfl; have qw1_19 : w1.cell? ⟨w.heap.size, 19, none⟩ = some (.int .i64 m.x) := Rw1.cell 19 rfl; have qw1_20 : w1.cell? ⟨w.heap.size, 20, none⟩ = some (.int .i64 m.y) := Rw1.cell 20 rfl; have qw1_21 : w1.cell? ⟨w.heap.size, 21, none⟩ = some (.slice ba bl bc) := Rw1.cell 21 rfl))
        | (go_at_call 70; ((with_reducible refine (clips_calls cs ca cl cc _ (HL.out.up (by (repeat' (first | (with_reducible first | exact Up.refl _ | assumption | refine Up.alloc ?_ _ | refine Up.drew ?_ | refine Up.drewN ?_ _ | refine Up.setCell ?_ ?_ _ | refine Up.call ?_ (by assumption)) | go_size)))).sl (HL.out.up (by (repeat' (first | (with_reducible first | exact Up.refl _ | assumption | refine Up.alloc ?_ _ | refine Up.drew ?_ | refine Up.drewN ?_ _ | refine Up.setCell ?_ ?_ _ | refine Up.call ?_ (by assumption)) | go_size)))).sv).mono ?_); rw [HK.out]; rintro E w2 ⟨rfl, hu2⟩; have z2 := hu2.size; have Rw2 : Row w2 w.heap.size #[.int .i64 4, .slice pa pl pc, .int .i64 sp, .int .i64 p0, .int .i64 p1, .int .i64 p2, .int .i64 p3, .slice ca cl cc, .int .i64 wd, .int .i64 cp, .int .i64 jn, .int .i64 mt, .slice da dl dc, .int .i64 ph, .int .i64 fn, .int .i64 m.a, .int .i64 m.b, .int .i64 m.c, .int .i64 m.d, .int .i64 m.x, .int .i64 m.y, .slice ba bl bc] := Row.up (show Row _ w.heap.size #[.int .i64 4, .slice pa pl pc, .int .i64 sp, .int .i64 p0, .int .i64 p1, .int .i64 p2, .int .i64 p3, .slice ca cl cc, .int .i64 wd, .int .i64 cp, .int .i64 jn, .int .i64 mt, .slice da dl dc, .int .i64 ph, .int .i64 fn, .int .i64 m.a, .int .i64 m.b, .int .i64 m.c, .int .i64 m.d, .int .i64 m.x, .int .i64 m.y, .slice ba bl bc] by (repeat' (with_reducible first | assumption | (refine Row.at _ _ ?_; (simp; done)) | refine Row.alloc ?_ _ | refine Row.drew ?_ | refine Row.drewN ?_ _ | refine Row.other ?_ (by first | (simp; done) | (simp; omega) | omega) _ | refine Row.up ?_ (by assumption) | refine Row.chg ?_ (by assumption) (by first | (simp; done) | (simp; omega))))) hu2; have lw2 := Rw2.lt; have qw2_0 : w2.cell? ⟨w.heap.size, 0, none⟩ = some (.int .i64 4) := Rw2.cell 0 rfl; have qw2_1 : w2.cell? ⟨w.heap.size, 1, none⟩ = some (.slice pa pl pc) := Rw2.cell 1 rfl; have qw2_7 : w2.cell? ⟨w.heap.size, 7, none⟩ = some (.slice ca cl cc) := Rw2.cell 7 rfl; have qw2_8 : w2.cell? ⟨w.heap.size, 8, none⟩ = some (.int .i64 wd) := Rw2.cell 8 rfl; have qw2_9 : w2.cell? ⟨w.heap.size, 9, none⟩ = some (.int .i64 cp) := Rw2.cell 9 rfl; have qw2_10 : w2.cell? ⟨w.heap.size, 10, none⟩ = some (.int .i64 jn) := Rw2.cell 10 rfl; have qw2_11 : w2.cell? ⟨w.heap.size, 11, none⟩ = some (.int .i64 mt) := Rw2.cell 11 rfl; have qw2_12 : w2.cell? ⟨w.heap.size, 12, none⟩ = some (.slice da dl dc) := Rw2.cell 12 rfl; have qw2_13 : w2.cell? ⟨w.heap.size, 13, none⟩ = some (.int .i64 ph) := Rw2.cell 13 rfl; have qw2_14 : w2.cell? ⟨w.heap.size, 14, none⟩ = some (.int .i64 fn) := Rw2.cell 14 rfl; have qw2_15 : w2.cell? ⟨w.heap.size, 15, none⟩ = some (.int .i64 m.a) := Rw2.cell 15 rfl; have qw2_16 : w2.cell? ⟨w.heap.size, 16, none⟩ = some (.int .i64 m.b) := Rw2.cell 16 rfl; have qw2_17 : w2.cell? ⟨w.heap.size, 17, none⟩ = some (.int .i64 m.c) := Rw2.cell 17 rfl; have qw2_18 : w2.cell? ⟨w.heap.size, 18, none⟩ = some (.int .i64 m.d) := Rw2.cell 18 rfl; have qw2_19 : w2.cell? ⟨w.heap.size, 19, none⟩ = some (.int .i64 m.x) := Rw2.cell 19 rfl; have qw2_20 : w2.cell? ⟨w.heap.size, 20, none⟩ = some (.int .i64 m.y) := Rw2.cell 20 rfl; have qw2_21 : w2.cell? ⟨w.heap.size, 21, none⟩ = some (.slice ba bl bc) := Rw2.cell 21 rfl))
        | (refine wpList_load_Row rfl 50 (.tmp 1) rfl (w.heap.size) rfl #[.int .i64 4, .slice pa pl pc, .int .i64 sp, .int .i64 p0, .int .i64 p1, .int .i64 p2, .int .i64 p3, .slice ca cl cc, .int .i64 wd, .int .i64 cp, .int .i64 jn, .int .i64 mt, .slice da dl dc, .int .i64 ph, .int .i64 fn, .int .i64 m.a, .int .i64 m.b, .int .i64 m.c, .int .i64 m.d, .int .i64 m.x, .int .i64 m.y, .slice ba bl bc] _ Rw2 Tryz.underlying50 rfl infoItem rfl ?_)
        | (go_at_call 71; ((with_reducible refine (letters_calls 4 pa pl pc sp p0 p1 p2 p3 ca cl cc wd cp jn mt da dl dc ph fn m ba bl bc _ (HT.out.up (by (repeat' (first | (with_reducible first | exact Up.refl _ | assumption | refine Up.alloc ?_ _ | refine Up.drew ?_ | refine Up.drewN ?_ _ | refine Up.setCell ?_ ?_ _ | refine Up.call ?_ (by assumption)) | go_size))))).mono ?_); rw [HLT.out]; rintro E w3 ⟨rfl, hu3⟩; have z3 := hu3.size; have Rw3 : Row w3 w.heap.size #[.int .i64 4, .slice pa pl pc, .int .i64 sp, .int .i64 p0, .int .i64 p1, .int .i64 p2, .int .i64 p3, .slice ca cl cc, .int .i64 wd, .int .i64 cp, .int .i64 jn, .int .i64 mt, .slice da dl dc, .int .i64 ph, .int .i64 fn, .int .i64 m.a, .int .i64 m.b, .int .i64 m.c, .int .i64 m.d, .int .i64 m.x, .int .i64 m.y, .slice ba bl bc] := Row.up (show Row _ w.heap.size #[.int .i64 4, .slice pa pl pc, .int .i64 sp, .int .i64 p0, .int .i64 p1, .int .i64 p2, .int .i64 p3, .slice ca cl cc, .int .i64 wd, .int .i64 cp, .int .i64 jn, .int .i64 mt, .slice da dl dc, .int .i64 ph, .int .i64 fn, .int .i64 m.a, .int .i64 m.b, .int .i64 m.c, .int .i64 m.d, .int .i64 m.x, .int .i64 m.y, .slice ba bl bc] by (repeat' (with_reducible first | assumption | (refine Row.at _ _ ?_; (simp; done)) | refine Row.alloc ?_ _ | refine Row.drew ?_ | refine Row.drewN ?_ _ | refine Row.other ?_ (by first | (simp; done) | (simp; omega) | omega) _ | refine Row.up ?_ (by assumption) | refine Row.chg ?_ (by assumption) (by first | (simp; done) | (simp; omega))))) hu3; have lw3 := Rw3.lt; have qw3_0 : w3.cell? ⟨w.heap.size, 0, none⟩ = some (.int .i64 4) := Rw3.cell 0 rfl; have qw3_1 : w3.cell? ⟨w.heap.size, 1, none⟩ = some (.slice pa pl pc) := Rw3.cell 1 rfl; have qw3_7 : w3.cell? ⟨w.heap.size, 7, none⟩ = some (.slice ca cl cc) := Rw3.cell 7 rfl; have qw3_8 : w3.cell? ⟨w.heap.size, 8, none⟩ = some (.int .i64 wd) := Rw3.cell 8 rfl; have qw3_9 : w3.cell? ⟨w.heap.size, 9, none⟩ = some (.int .i64 cp) := Rw3.cell 9 rfl; have qw3_10 : w3.cell? ⟨w.heap.size, 10, none⟩ = some (.int .i64 jn) := Rw3.cell 10 rfl; have qw3_11 : w3.cell? ⟨w.heap.size, 11, none⟩ = some (.int .i64 mt) := Rw3.cell 11 rfl; have qw3_12 : w3.cell? ⟨w.heap.size, 12, none⟩ = some (.slice da dl dc) := Rw3.cell 12 rfl; have qw3_13 : w3.cell? ⟨w.heap.size, 13, none⟩ = some (.int .i64 ph) := Rw3.cell 13 rfl; have qw3_14 : w3.cell? ⟨w.heap.size, 14, none⟩ = some (.int .i64 fn) := Rw3.cell 14 rfl; have qw3_15 : w3.cell? ⟨w.heap.size, 15, none⟩ = some (.int .i64 m.a) := Rw3.cell 15 rfl; have qw3_16 : w3.cell? ⟨w.heap.size, 16, none⟩ = some (.int .i64 m.b) := Rw3.cell 16 rfl; have qw3_17 : w3.cell? ⟨w.heap.size, 17, none⟩ = some (.int .i64 m.c) := Rw3.cell 17 rfl; have qw3_18 : w3.cell? ⟨w.heap.size, 18, none⟩ = some (.int .i64 m.d) := Rw3.cell 18 rfl; have qw3_19 : w3.cell? ⟨w.heap.size, 19, none⟩ = some (.int .i64 m.x) := Rw3.cell 19 rfl; have qw3_20 : w3.cell? ⟨w.heap.size, 20, none⟩ = some (.int .i64 m.y) := Rw3.cell 20 rfl; have qw3_21 : w3.cell? ⟨w.heap.size, 21, none⟩ = some (.slice ba bl bc) := Rw3.cell 21 rfl))
        | (go_at_call 72; ((with_reducible refine (none_calls wd cp jn mt ph da dl dc _).mono ?_); rw [HNO.out]; rintro E w4 ⟨rfl, hu4⟩)))
      go_ret
      exact ⟨by rw [H.out]; rfl, by (repeat' (first | (with_reducible first | exact Up.refl _ | assumption | refine Up.alloc ?_ _ | refine Up.drew ?_ | refine Up.drewN ?_ _ | refine Up.setCell ?_ ?_ _ | refine Up.call ?_ (by assumption)) | go_size))⟩
    have H := Lib.hid (show itemB true true true tN tP tS tM 4 fn pl bl = tN by simp only [itemB, h1] <;> simp)
    go_enter Tryz.func41, Tryz.ntmps41
    go_wp2_with (first
      | (go_at_call 69; ((with_reducible refine (color_calls sp p0 p1 p2 p3 _).mono ?_); rw [HC.out]; rintro E w1 ⟨rfl, hu1⟩; have z1 := hu1.size; (try simp at z1); have Rw1 : Row w1 w.heap.size #[.int .i64 4, .slice pa pl pc, .int .i64 sp, .int .i64 p0, .int .i64 p1, .int .i64 p2, .int .i64 p3, .slice ca cl cc, .int .i64 wd, .int .i64 cp, .int .i64 jn, .int .i64 mt, .slice da dl dc, .int .i64 ph, .int .i64 fn, .int .i64 m.a, .int .i64 m.b, .int .i64 m.c, .int .i64 m.d, .int .i64 m.x, .int .i64 m.y, .slice ba bl bc] := Row.up (show Row _ w.heap.size #[.int .i64 4, .slice pa pl pc, .int .i64 sp, .int .i64 p0, .int .i64 p1, .int .i64 p2, .int .i64 p3, .slice ca cl cc, .int .i64 wd, .int .i64 cp, .int .i64 jn, .int .i64 mt, .slice da dl dc, .int .i64 ph, .int .i64 fn, .int .i64 m.a, .int .i64 m.b, .int .i64 m.c, .int .i64 m.d, .int .i64 m.x, .int .i64 m.y, .slice ba bl bc] by (repeat' (with_reducible first | assumption | (refine Row.at _ _ ?_; (simp; done)) | refine Row.alloc ?_ _ | refine Row.drew ?_ | refine Row.drewN ?_ _ | refine Row.other ?_ (by first | (simp; done) | (simp; omega) | omega) _ | refine Row.up ?_ (by assumption) | refine Row.chg ?_ (by assumption) (by first | (simp; done) | (simp; omega))))) hu1; have lw1 := Rw1.lt; have qw1_0 : w1.cell? ⟨w.heap.size, 0, none⟩ = some (.int .i64 4) := Rw1.cell 0 rfl; have qw1_1 : w1.cell? ⟨w.heap.size, 1, none⟩ = some (.slice pa pl pc) := Rw1.cell 1 rfl; have qw1_7 : w1.cell? ⟨w.heap.size, 7, none⟩ = some (.slice ca cl cc) := Rw1.cell 7 rfl; have qw1_8 : w1.cell? ⟨w.heap.size, 8, none⟩ = some (.int .i64 wd) := Rw1.cell 8 rfl; have qw1_9 : w1.cell? ⟨w.heap.size, 9, none⟩ = some (.int .i64 cp) := Rw1.cell 9 rfl; have qw1_10 : w1.cell? ⟨w.heap.size, 10, none⟩ = some (.int .i64 jn) := Rw1.cell 10 rfl; have qw1_11 : w1.cell? ⟨w.heap.size, 11, none⟩ = some (.int .i64 mt) := Rw1.cell 11 rfl; have qw1_12 : w1.cell? ⟨w.heap.size, 12, none⟩ = some (.slice da dl dc) := Rw1.cell 12 rfl; have qw1_13 : w1.cell? ⟨w.heap.size, 13, none⟩ = some (.int .i64 ph) := Rw1.cell 13 rfl; have qw1_14 : w1.cell? ⟨w.heap.size, 14, none⟩ = some (.int .i64 fn) := Rw1.cell 14 rfl; have qw1_15 : w1.cell? ⟨w.heap.size, 15, none⟩ = some (.int .i64 m.a) := Rw1.cell 15 rfl; have qw1_16 : w1.cell? ⟨w.heap.size, 16, none⟩ = some (.int .i64 m.b) := Rw1.cell 16 rfl; have qw1_17 : w1.cell? ⟨w.heap.size, 17, none⟩ = some (.int .i64 m.c) := Rw1.cell 17 rfl; have qw1_18 : w1.cell? ⟨w.heap.size, 18, none⟩ = some (.int .i64 m.d) := Rw1.cell 18 rfl; have qw1_19 : w1.cell? ⟨w.heap.size, 19, none⟩ = some (.int .i64 m.x) := Rw1.cell 19 rfl; have qw1_20 : w1.cell? ⟨w.heap.size, 20, none⟩ = some (.int .i64 m.y) := Rw1.cell 20 rfl; have qw1_21 : w1.cell? ⟨w.heap.size, 21, none⟩ = some (.slice ba bl bc) := Rw1.cell 21 rfl))
      | (go_at_call 70; ((with_reducible refine (clips_calls cs ca cl cc _ (HL.out.up (by (repeat' (first | (with_reducible first | exact Up.refl _ | assumption | refine Up.alloc ?_ _ | refine Up.drew ?_ | refine Up.drewN ?_ _ | refine Up.setCell ?_ ?_ _ | refine Up.call ?_ (by assumption)) | go_size)))).sl (HL.out.up (by (repeat' (first | (with_reducible first | exact Up.refl _ | assumption | refine Up.alloc ?_ _ | refine Up.drew ?_ | refine Up.drewN ?_ _ | refine Up.setCell ?_ ?_ _ | refine Up.call ?_ (by assumption)) | go_size)))).sv).mono ?_); rw [HK.out]; rintro E w2 ⟨rfl, hu2⟩; have z2 := hu2.size; have Rw2 : Row w2 w.heap.size #[.int .i64 4, .slice pa pl pc, .int .i64 sp, .int .i64 p0, .int .i64 p1, .int .i64 p2, .int .i64 p3, .slice ca cl cc, .int .i64 wd, .int .i64 cp, .int .i64 jn, .int .i64 mt, .slice da dl dc, .int .i64 ph, .int .i64 fn, .int .i64 m.a, .int .i64 m.b, .int .i64 m.c, .int .i64 m.d, .int .i64 m.x, .int .i64 m.y, .slice ba bl bc] := Row.up (show Row _ w.heap.size #[.int .i64 4, .slice pa pl pc, .int .i64 sp, .int .i64 p0, .int .i64 p1, .int .i64 p2, .int .i64 p3, .slice ca cl cc, .int .i64 wd, .int .i64 cp, .int .i64 jn, .int .i64 mt, .slice da dl dc, .int .i64 ph, .int .i64 fn, .int .i64 m.a, .int .i64 m.b, .int .i64 m.c, .int .i64 m.d, .int .i64 m.x, .int .i64 m.y, .slice ba bl bc] by (repeat' (with_reducible first | assumption | (refine Row.at _ _ ?_; (simp; done)) | refine Row.alloc ?_ _ | refine Row.drew ?_ | refine Row.drewN ?_ _ | refine Row.other ?_ (by first | (simp; done) | (simp; omega) | omega) _ | refine Row.up ?_ (by assumption) | refine Row.chg ?_ (by assumption) (by first | (simp; done) | (simp; omega))))) hu2; have lw2 := Rw2.lt; have qw2_0 : w2.cell? ⟨w.heap.size, 0, none⟩ = some (.int .i64 4) := Rw2.cell 0 rfl; have qw2_1 : w2.cell? ⟨w.heap.size, 1, none⟩ = some (.slice pa pl pc) := Rw2.cell 1 rfl; have qw2_7 : w2.cell? ⟨w.heap.size, 7, none⟩ = some (.slice ca cl cc) := Rw2.cell 7 rfl; have qw2_8 : w2.cell? ⟨w.heap.size, 8, none⟩ = some (.int .i64 wd) := Rw2.cell 8 rfl; have qw2_9 : w2.cell? ⟨w.heap.size, 9, none⟩ = some (.int .i64 cp) := Rw2.cell 9 rfl; have qw2_10 : w2.cell? ⟨w.heap.size, 10, none⟩ = some (.int .i64 jn) := Rw2.cell 10 rfl; have qw2_11 : w2.cell? ⟨w.heap.size, 11, none⟩ = some (.int .i64 mt) := Rw2.cell 11 rfl; have qw2_12 : w2.cell? ⟨w.heap.size, 12, none⟩ = some (.slice da dl dc) := Rw2.cell 12 rfl; have qw2_13 : w2.cell? ⟨w.heap.size, 13, none⟩ = some (.int .i64 ph) := Rw2.cell 13 rfl; have qw2_14 : w2.cell? ⟨w.heap.size, 14, none⟩ = some (.int .i64 fn) := Rw2.cell 14 rfl; have qw2_15 : w2.cell? ⟨w.heap.size, 15, none⟩ = some (.int .i64 m.a) := Rw2.cell 15 rfl; have qw2_16 : w2.cell? ⟨w.heap.size, 16, none⟩ = some (.int .i64 m.b) := Rw2.cell 16 rfl; have qw2_17 : w2.cell? ⟨w.heap.size, 17, none⟩ = some (.int .i64 m.c) := Rw2.cell 17 rfl; have qw2_18 : w2.cell? ⟨w.heap.size, 18, none⟩ = some (.int .i64 m.d) := Rw2.cell 18 rfl; have qw2_19 : w2.cell? ⟨w.heap.size, 19, none⟩ = some (.int .i64 m.x) := Rw2.cell 19 rfl; have qw2_20 : w2.cell? ⟨w.heap.size, 20, none⟩ = some (.int .i64 m.y) := Rw2.cell 20 rfl; have qw2_21 : w2.cell? ⟨w.heap.size, 21, none⟩ = some (.slice ba bl bc) := Rw2.cell 21 rfl))
      | (refine wpList_load_Row rfl 50 (.tmp 1) rfl (w.heap.size) rfl #[.int .i64 4, .slice pa pl pc, .int .i64 sp, .int .i64 p0, .int .i64 p1, .int .i64 p2, .int .i64 p3, .slice ca cl cc, .int .i64 wd, .int .i64 cp, .int .i64 jn, .int .i64 mt, .slice da dl dc, .int .i64 ph, .int .i64 fn, .int .i64 m.a, .int .i64 m.b, .int .i64 m.c, .int .i64 m.d, .int .i64 m.x, .int .i64 m.y, .slice ba bl bc] _ Rw2 Tryz.underlying50 rfl infoItem rfl ?_)
      | (go_at_call 71; ((with_reducible refine (letters_calls 4 pa pl pc sp p0 p1 p2 p3 ca cl cc wd cp jn mt da dl dc ph fn m ba bl bc _ (HT.out.up (by (repeat' (first | (with_reducible first | exact Up.refl _ | assumption | refine Up.alloc ?_ _ | refine Up.drew ?_ | refine Up.drewN ?_ _ | refine Up.setCell ?_ ?_ _ | refine Up.call ?_ (by assumption)) | go_size))))).mono ?_); rw [HLT.out]; rintro E w3 ⟨rfl, hu3⟩; have z3 := hu3.size; have Rw3 : Row w3 w.heap.size #[.int .i64 4, .slice pa pl pc, .int .i64 sp, .int .i64 p0, .int .i64 p1, .int .i64 p2, .int .i64 p3, .slice ca cl cc, .int .i64 wd, .int .i64 cp, .int .i64 jn, .int .i64 mt, .slice da dl dc, .int .i64 ph, .int .i64 fn, .int .i64 m.a, .int .i64 m.b, .int .i64 m.c, .int .i64 m.d, .int .i64 m.x, .int .i64 m.y, .slice ba bl bc] := Row.up (show Row _ w.heap.size #[.int .i64 4, .slice pa pl pc, .int .i64 sp, .int .i64 p0, .int .i64 p1, .int .i64 p2, .int .i64 p3, .slice ca cl cc, .int .i64 wd, .int .i64 cp, .int .i64 jn, .int .i64 mt, .slice da dl dc, .int .i64 ph, .int .i64 fn, .int .i64 m.a, .int .i64 m.b, .int .i64 m.c, .int .i64 m.d, .int .i64 m.x, .int .i64 m.y, .slice ba bl bc] by (repeat' (with_reducible first | assumption | (refine Row.at _ _ ?_; (simp; done)) | refine Row.alloc ?_ _ | refine Row.drew ?_ | refine Row.drewN ?_ _ | refine Row.other ?_ (by first | (simp; done) | (simp; omega) | omega) _ | refine Row.up ?_ (by assumption) | refine Row.chg ?_ (by assumption) (by first | (simp; done) | (simp; omega))))) hu3; have lw3 := Rw3.lt; have qw3_0 : w3.cell? ⟨w.heap.size, 0, none⟩ = some (.int .i64 4) := Rw3.cell 0 rfl; have qw3_1 : w3.cell? ⟨w.heap.size, 1, none⟩ = some (.slice pa pl pc) := Rw3.cell 1 rfl; have qw3_7 : w3.cell? ⟨w.heap.size, 7, none⟩ = some (.slice ca cl cc) := Rw3.cell 7 rfl; have qw3_8 : w3.cell? ⟨w.heap.size, 8, none⟩ = some (.int .i64 wd) := Rw3.cell 8 rfl; have qw3_9 : w3.cell? ⟨w.heap.size, 9, none⟩ = some (.int .i64 cp) := Rw3.cell 9 rfl; have qw3_10 : w3.cell? ⟨w.heap.size, 10, none⟩ = some (.int .i64 jn) := Rw3.cell 10 rfl; have qw3_11 : w3.cell? ⟨w.heap.size, 11, none⟩ = some (.int .i64 mt) := Rw3.cell 11 rfl; have qw3_12 : w3.cell? ⟨w.heap.size, 12, none⟩ = some (.slice da dl dc) := Rw3.cell 12 rfl; have qw3_13 : w3.cell? ⟨w.heap.size, 13, none⟩ = some (.int .i64 ph) := Rw3.cell 13 rfl; have qw3_14 : w3.cell? ⟨w.heap.size, 14, none⟩ = some (.int .i64 fn) := Rw3.cell 14 rfl; have qw3_15 : w3.cell? ⟨w.heap.size, 15, none⟩ = some (.int .i64 m.a) := Rw3.cell 15 rfl; have qw3_16 : w3.cell? ⟨w.heap.size, 16, none⟩ = some (.int .i64 m.b) := Rw3.cell 16 rfl; have qw3_17 : w3.cell? ⟨w.heap.size, 17, none⟩ = some (.int .i64 m.c) := Rw3.cell 17 rfl; have qw3_18 : w3.cell? ⟨w.heap.size, 18, none⟩ = some (.int .i64 m.d) := Rw3.cell 18 rfl; have qw3_19 : w3.cell? ⟨w.heap.size, 19, none⟩ = some (.int .i64 m.x) := Rw3.cell 19 rfl; have qw3_20 : w3.cell? ⟨w.heap.size, 20, none⟩ = some (.int .i64 m.y) := Rw3.cell 20 rfl; have qw3_21 : w3.cell? ⟨w.heap.size, 21, none⟩ = some (.slice ba bl bc) := Rw3.cell 21 rfl))
      | (go_at_call 72; ((with_reducible refine (none_calls wd cp jn mt ph da dl dc _).mono ?_); rw [HNO.out]; rintro E w4 ⟨rfl, hu4⟩)))
    go_ret
    exact ⟨by rw [H.out]; rfl, by (repeat' (first | (with_reducible first | exact Up.refl _ | assumption | refine Up.alloc ?_ _ | refine Up.drew ?_ | refine Up.drewN ?_ _ | refine Up.setCell ?_ ?_ _ | refine Up.call ?_ (by assumption)) | go_size))⟩
  have e4 : (k == 4) = false := by simpa using hk
  obtain ⟨b_h2, h2⟩ : ∃ b, (fn != 0) = b := ⟨_, rfl⟩
  cases b_h2
  rotate_left
  · have H := Lib.hid (show itemB true true tL tN tP tS tM k fn pl bl = false by simp only [itemB, hk, h2] <;> simp)
    go_enter Tryz.func41, Tryz.ntmps41
    go_wp2_with (first
      | (go_at_call 69; ((with_reducible refine (color_calls sp p0 p1 p2 p3 _).mono ?_); rw [HC.out]; rintro E w1 ⟨rfl, hu1⟩; have z1 := hu1.size; (try simp at z1); have Rw1 : Row w1 w.heap.size #[.int .i64 k, .slice pa pl pc, .int .i64 sp, .int .i64 p0, .int .i64 p1, .int .i64 p2, .int .i64 p3, .slice ca cl cc, .int .i64 wd, .int .i64 cp, .int .i64 jn, .int .i64 mt, .slice da dl dc, .int .i64 ph, .int .i64 fn, .int .i64 m.a, .int .i64 m.b, .int .i64 m.c, .int .i64 m.d, .int .i64 m.x, .int .i64 m.y, .slice ba bl bc] := Row.up (show Row _ w.heap.size #[.int .i64 k, .slice pa pl pc, .int .i64 sp, .int .i64 p0, .int .i64 p1, .int .i64 p2, .int .i64 p3, .slice ca cl cc, .int .i64 wd, .int .i64 cp, .int .i64 jn, .int .i64 mt, .slice da dl dc, .int .i64 ph, .int .i64 fn, .int .i64 m.a, .int .i64 m.b, .int .i64 m.c, .int .i64 m.d, .int .i64 m.x, .int .i64 m.y, .slice ba bl bc] by (repeat' (with_reducible first | assumption | (refine Row.at _ _ ?_; (simp; done)) | refine Row.alloc ?_ _ | refine Row.drew ?_ | refine Row.drewN ?_ _ | refine Row.other ?_ (by first | (simp; done) | (simp; omega) | omega) _ | refine Row.up ?_ (by assumption) | refine Row.chg ?_ (by assumption) (by first | (simp; done) | (simp; omega))))) hu1; have lw1 := Rw1.lt; have qw1_0 : w1.cell? ⟨w.heap.size, 0, none⟩ = some (.int .i64 k) := Rw1.cell 0 rfl; have qw1_1 : w1.cell? ⟨w.heap.size, 1, none⟩ = some (.slice pa pl pc) := Rw1.cell 1 rfl; have qw1_7 : w1.cell? ⟨w.heap.size, 7, none⟩ = some (.slice ca cl cc) := Rw1.cell 7 rfl; have qw1_8 : w1.cell? ⟨w.heap.size, 8, none⟩ = some (.int .i64 wd) := Rw1.cell 8 rfl; have qw1_9 : w1.cell? ⟨w.heap.size, 9, none⟩ = some (.int .i64 cp) := Rw1.cell 9 rfl; have qw1_10 : w1.cell? ⟨w.heap.size, 10, none⟩ = some (.int .i64 jn) := Rw1.cell 10 rfl; have qw1_11 : w1.cell? ⟨w.heap.size, 11, none⟩ = some (.int .i64 mt) := Rw1.cell 11 rfl; have qw1_12 : w1.cell? ⟨w.heap.size, 12, none⟩ = some (.slice da dl dc) := Rw1.cell 12 rfl; have qw1_13 : w1.cell? ⟨w.heap.size, 13, none⟩ = some (.int .i64 ph) := Rw1.cell 13 rfl; have qw1_14 : w1.cell? ⟨w.heap.size, 14, none⟩ = some (.int .i64 fn) := Rw1.cell 14 rfl; have qw1_15 : w1.cell? ⟨w.heap.size, 15, none⟩ = some (.int .i64 m.a) := Rw1.cell 15 rfl; have qw1_16 : w1.cell? ⟨w.heap.size, 16, none⟩ = some (.int .i64 m.b) := Rw1.cell 16 rfl; have qw1_17 : w1.cell? ⟨w.heap.size, 17, none⟩ = some (.int .i64 m.c) := Rw1.cell 17 rfl; have qw1_18 : w1.cell? ⟨w.heap.size, 18, none⟩ = some (.int .i64 m.d) := Rw1.cell 18 rfl; have qw1_19 : w1.cell? ⟨w.heap.size, 19, none⟩ = some (.int .i64 m.x) := Rw1.cell 19 rfl; have qw1_20 : w1.cell? ⟨w.heap.size, 20, none⟩ = some (.int .i64 m.y) := Rw1.cell 20 rfl; have qw1_21 : w1.cell? ⟨w.heap.size, 21, none⟩ = some (.slice ba bl bc) := Rw1.cell 21 rfl))
      | (go_at_call 70; ((with_reducible refine (clips_calls cs ca cl cc _ (HL.out.up (by (repeat' (first | (with_reducible first | exact Up.refl _ | assumption | refine Up.alloc ?_ _ | refine Up.drew ?_ | refine Up.drewN ?_ _ | refine Up.setCell ?_ ?_ _ | refine Up.call ?_ (by assumption)) | go_size)))).sl (HL.out.up (by (repeat' (first | (with_reducible first | exact Up.refl _ | assumption | refine Up.alloc ?_ _ | refine Up.drew ?_ | refine Up.drewN ?_ _ | refine Up.setCell ?_ ?_ _ | refine Up.call ?_ (by assumption)) | go_size)))).sv).mono ?_); rw [HK.out]; rintro E w2 ⟨rfl, hu2⟩; have z2 := hu2.size; have Rw2 : Row w2 w.heap.size #[.int .i64 k, .slice pa pl pc, .int .i64 sp, .int .i64 p0, .int .i64 p1, .int .i64 p2, .int .i64 p3, .slice ca cl cc, .int .i64 wd, .int .i64 cp, .int .i64 jn, .int .i64 mt, .slice da dl dc, .int .i64 ph, .int .i64 fn, .int .i64 m.a, .int .i64 m.b, .int .i64 m.c, .int .i64 m.d, .int .i64 m.x, .int .i64 m.y, .slice ba bl bc] := Row.up (show Row _ w.heap.size #[.int .i64 k, .slice pa pl pc, .int .i64 sp, .int .i64 p0, .int .i64 p1, .int .i64 p2, .int .i64 p3, .slice ca cl cc, .int .i64 wd, .int .i64 cp, .int .i64 jn, .int .i64 mt, .slice da dl dc, .int .i64 ph, .int .i64 fn, .int .i64 m.a, .int .i64 m.b, .int .i64 m.c, .int .i64 m.d, .int .i64 m.x, .int .i64 m.y, .slice ba bl bc] by (repeat' (with_reducible first | assumption | (refine Row.at _ _ ?_; (simp; done)) | refine Row.alloc ?_ _ | refine Row.drew ?_ | refine Row.drewN ?_ _ | refine Row.other ?_ (by first | (simp; done) | (simp; omega) | omega) _ | refine Row.up ?_ (by assumption) | refine Row.chg ?_ (by assumption) (by first | (simp; done) | (simp; omega))))) hu2; have lw2 := Rw2.lt; have qw2_0 : w2.cell? ⟨w.heap.size, 0, none⟩ = some (.int .i64 k) := Rw2.cell 0 rfl; have qw2_1 : w2.cell? ⟨w.heap.size, 1, none⟩ = some (.slice pa pl pc) := Rw2.cell 1 rfl; have qw2_7 : w2.cell? ⟨w.heap.size, 7, none⟩ = some (.slice ca cl cc) := Rw2.cell 7 rfl; have qw2_8 : w2.cell? ⟨w.heap.size, 8, none⟩ = some (.int .i64 wd) := Rw2.cell 8 rfl; have qw2_9 : w2.cell? ⟨w.heap.size, 9, none⟩ = some (.int .i64 cp) := Rw2.cell 9 rfl; have qw2_10 : w2.cell? ⟨w.heap.size, 10, none⟩ = some (.int .i64 jn) := Rw2.cell 10 rfl; have qw2_11 : w2.cell? ⟨w.heap.size, 11, none⟩ = some (.int .i64 mt) := Rw2.cell 11 rfl; have qw2_12 : w2.cell? ⟨w.heap.size, 12, none⟩ = some (.slice da dl dc) := Rw2.cell 12 rfl; have qw2_13 : w2.cell? ⟨w.heap.size, 13, none⟩ = some (.int .i64 ph) := Rw2.cell 13 rfl; have qw2_14 : w2.cell? ⟨w.heap.size, 14, none⟩ = some (.int .i64 fn) := Rw2.cell 14 rfl; have qw2_15 : w2.cell? ⟨w.heap.size, 15, none⟩ = some (.int .i64 m.a) := Rw2.cell 15 rfl; have qw2_16 : w2.cell? ⟨w.heap.size, 16, none⟩ = some (.int .i64 m.b) := Rw2.cell 16 rfl; have qw2_17 : w2.cell? ⟨w.heap.size, 17, none⟩ = some (.int .i64 m.c) := Rw2.cell 17 rfl; have qw2_18 : w2.cell? ⟨w.heap.size, 18, none⟩ = some (.int .i64 m.d) := Rw2.cell 18 rfl; have qw2_19 : w2.cell? ⟨w.heap.size, 19, none⟩ = some (.int .i64 m.x) := Rw2.cell 19 rfl; have qw2_20 : w2.cell? ⟨w.heap.size, 20, none⟩ = some (.int .i64 m.y) := Rw2.cell 20 rfl; have qw2_21 : w2.cell? ⟨w.heap.size, 21, none⟩ = some (.slice ba bl bc) := Rw2.cell 21 rfl)))
    go_ret
    exact ⟨by rw [H.out]; rfl, by (repeat' (first | (with_reducible first | exact Up.refl _ | assumption | refine Up.alloc ?_ _ | refine Up.drew ?_ | refine Up.drewN ?_ _ | refine Up.setCell ?_ ?_ _ | refine Up.call ?_ (by assumption)) | go_size))⟩
  cases tM
  · have H := Lib.hid (show itemB true true tL tN tP tS false k fn pl bl = false by simp only [itemB, hk, h2] <;> simp)
    go_enter Tryz.func41, Tryz.ntmps41
    go_wp2_with (first
      | (go_at_call 69; ((with_reducible refine (color_calls sp p0 p1 p2 p3 _).mono ?_); rw [HC.out]; rintro E w1 ⟨rfl, hu1⟩; have z1 := hu1.size; (try simp at z1); have Rw1 : Row w1 w.heap.size #[.int .i64 k, .slice pa pl pc, .int .i64 sp, .int .i64 p0, .int .i64 p1, .int .i64 p2, .int .i64 p3, .slice ca cl cc, .int .i64 wd, .int .i64 cp, .int .i64 jn, .int .i64 mt, .slice da dl dc, .int .i64 ph, .int .i64 fn, .int .i64 m.a, .int .i64 m.b, .int .i64 m.c, .int .i64 m.d, .int .i64 m.x, .int .i64 m.y, .slice ba bl bc] := Row.up (show Row _ w.heap.size #[.int .i64 k, .slice pa pl pc, .int .i64 sp, .int .i64 p0, .int .i64 p1, .int .i64 p2, .int .i64 p3, .slice ca cl cc, .int .i64 wd, .int .i64 cp, .int .i64 jn, .int .i64 mt, .slice da dl dc, .int .i64 ph, .int .i64 fn, .int .i64 m.a, .int .i64 m.b, .int .i64 m.c, .int .i64 m.d, .int .i64 m.x, .int .i64 m.y, .slice ba bl bc] by (repeat' (with_reducible first | assumption | (refine Row.at _ _ ?_; (simp; done)) | refine Row.alloc ?_ _ | refine Row.drew ?_ | refine Row.drewN ?_ _ | refine Row.other ?_ (by first | (simp; done) | (simp; omega) | omega) _ | refine Row.up ?_ (by assumption) | refine Row.chg ?_ (by assumption) (by first | (simp; done) | (simp; omega))))) hu1; have lw1 := Rw1.lt; have qw1_0 : w1.cell? ⟨w.heap.size, 0, none⟩ = some (.int .i64 k) := Rw1.cell 0 rfl; have qw1_1 : w1.cell? ⟨w.heap.size, 1, none⟩ = some (.slice pa pl pc) := Rw1.cell 1 rfl; have qw1_7 : w1.cell? ⟨w.heap.size, 7, none⟩ = some (.slice ca cl cc) := Rw1.cell 7 rfl; have qw1_8 : w1.cell? ⟨w.heap.size, 8, none⟩ = some (.int .i64 wd) := Rw1.cell 8 rfl; have qw1_9 : w1.cell? ⟨w.heap.size, 9, none⟩ = some (.int .i64 cp) := Rw1.cell 9 rfl; have qw1_10 : w1.cell? ⟨w.heap.size, 10, none⟩ = some (.int .i64 jn) := Rw1.cell 10 rfl; have qw1_11 : w1.cell? ⟨w.heap.size, 11, none⟩ = some (.int .i64 mt) := Rw1.cell 11 rfl; have qw1_12 : w1.cell? ⟨w.heap.size, 12, none⟩ = some (.slice da dl dc) := Rw1.cell 12 rfl; have qw1_13 : w1.cell? ⟨w.heap.size, 13, none⟩ = some (.int .i64 ph) := Rw1.cell 13 rfl; have qw1_14 : w1.cell? ⟨w.heap.size, 14, none⟩ = some (.int .i64 fn) := Rw1.cell 14 rfl; have qw1_15 : w1.cell? ⟨w.heap.size, 15, none⟩ = some (.int .i64 m.a) := Rw1.cell 15 rfl; have qw1_16 : w1.cell? ⟨w.heap.size, 16, none⟩ = some (.int .i64 m.b) := Rw1.cell 16 rfl; have qw1_17 : w1.cell? ⟨w.heap.size, 17, none⟩ = some (.int .i64 m.c) := Rw1.cell 17 rfl; have qw1_18 : w1.cell? ⟨w.heap.size, 18, none⟩ = some (.int .i64 m.d) := Rw1.cell 18 rfl; have qw1_19 : w1.cell? ⟨w.heap.size, 19, none⟩ = some (.int .i64 m.x) := Rw1.cell 19 rfl; have qw1_20 : w1.cell? ⟨w.heap.size, 20, none⟩ = some (.int .i64 m.y) := Rw1.cell 20 rfl; have qw1_21 : w1.cell? ⟨w.heap.size, 21, none⟩ = some (.slice ba bl bc) := Rw1.cell 21 rfl))
      | (go_at_call 70; ((with_reducible refine (clips_calls cs ca cl cc _ (HL.out.up (by (repeat' (first | (with_reducible first | exact Up.refl _ | assumption | refine Up.alloc ?_ _ | refine Up.drew ?_ | refine Up.drewN ?_ _ | refine Up.setCell ?_ ?_ _ | refine Up.call ?_ (by assumption)) | go_size)))).sl (HL.out.up (by (repeat' (first | (with_reducible first | exact Up.refl _ | assumption | refine Up.alloc ?_ _ | refine Up.drew ?_ | refine Up.drewN ?_ _ | refine Up.setCell ?_ ?_ _ | refine Up.call ?_ (by assumption)) | go_size)))).sv).mono ?_); rw [HK.out]; rintro E w2 ⟨rfl, hu2⟩; have z2 := hu2.size; have Rw2 : Row w2 w.heap.size #[.int .i64 k, .slice pa pl pc, .int .i64 sp, .int .i64 p0, .int .i64 p1, .int .i64 p2, .int .i64 p3, .slice ca cl cc, .int .i64 wd, .int .i64 cp, .int .i64 jn, .int .i64 mt, .slice da dl dc, .int .i64 ph, .int .i64 fn, .int .i64 m.a, .int .i64 m.b, .int .i64 m.c, .int .i64 m.d, .int .i64 m.x, .int .i64 m.y, .slice ba bl bc] := Row.up (show Row _ w.heap.size #[.int .i64 k, .slice pa pl pc, .int .i64 sp, .int .i64 p0, .int .i64 p1, .int .i64 p2, .int .i64 p3, .slice ca cl cc, .int .i64 wd, .int .i64 cp, .int .i64 jn, .int .i64 mt, .slice da dl dc, .int .i64 ph, .int .i64 fn, .int .i64 m.a, .int .i64 m.b, .int .i64 m.c, .int .i64 m.d, .int .i64 m.x, .int .i64 m.y, .slice ba bl bc] by (repeat' (with_reducible first | assumption | (refine Row.at _ _ ?_; (simp; done)) | refine Row.alloc ?_ _ | refine Row.drew ?_ | refine Row.drewN ?_ _ | refine Row.other ?_ (by first | (simp; done) | (simp; omega) | omega) _ | refine Row.up ?_ (by assumption) | refine Row.chg ?_ (by assumption) (by first | (simp; done) | (simp; omega))))) hu2; have lw2 := Rw2.lt; have qw2_0 : w2.cell? ⟨w.heap.size, 0, none⟩ = some (.int .i64 k) := Rw2.cell 0 rfl; have qw2_1 : w2.cell? ⟨w.heap.size, 1, none⟩ = some (.slice pa pl pc) := Rw2.cell 1 rfl; have qw2_7 : w2.cell? ⟨w.heap.size, 7, none⟩ = some (.slice ca cl cc) := Rw2.cell 7 rfl; have qw2_8 : w2.cell? ⟨w.heap.size, 8, none⟩ = some (.int .i64 wd) := Rw2.cell 8 rfl; have qw2_9 : w2.cell? ⟨w.heap.size, 9, none⟩ = some (.int .i64 cp) := Rw2.cell 9 rfl; have qw2_10 : w2.cell? ⟨w.heap.size, 10, none⟩ = some (.int .i64 jn) := Rw2.cell 10 rfl; have qw2_11 : w2.cell? ⟨w.heap.size, 11, none⟩ = some (.int .i64 mt) := Rw2.cell 11 rfl; have qw2_12 : w2.cell? ⟨w.heap.size, 12, none⟩ = some (.slice da dl dc) := Rw2.cell 12 rfl; have qw2_13 : w2.cell? ⟨w.heap.size, 13, none⟩ = some (.int .i64 ph) := Rw2.cell 13 rfl; have qw2_14 : w2.cell? ⟨w.heap.size, 14, none⟩ = some (.int .i64 fn) := Rw2.cell 14 rfl; have qw2_15 : w2.cell? ⟨w.heap.size, 15, none⟩ = some (.int .i64 m.a) := Rw2.cell 15 rfl; have qw2_16 : w2.cell? ⟨w.heap.size, 16, none⟩ = some (.int .i64 m.b) := Rw2.cell 16 rfl; have qw2_17 : w2.cell? ⟨w.heap.size, 17, none⟩ = some (.int .i64 m.c) := Rw2.cell 17 rfl; have qw2_18 : w2.cell? ⟨w.heap.size, 18, none⟩ = some (.int .i64 m.d) := Rw2.cell 18 rfl; have qw2_19 : w2.cell? ⟨w.heap.size, 19, none⟩ = some (.int .i64 m.x) := Rw2.cell 19 rfl; have qw2_20 : w2.cell? ⟨w.heap.size, 20, none⟩ = some (.int .i64 m.y) := Rw2.cell 20 rfl; have qw2_21 : w2.cell? ⟨w.heap.size, 21, none⟩ = some (.slice ba bl bc) := Rw2.cell 21 rfl)))
    go_ret
    exact ⟨by rw [H.out]; rfl, by (repeat' (first | (with_reducible first | exact Up.refl _ | assumption | refine Up.alloc ?_ _ | refine Up.drew ?_ | refine Up.drewN ?_ _ | refine Up.setCell ?_ ?_ _ | refine Up.call ?_ (by assumption)) | go_size))⟩
  obtain ⟨b_h3, h3⟩ : ∃ b, (decide (0 < bl)) = b := ⟨_, rfl⟩
  cases b_h3
  rotate_left
  · have H := Lib.hid (show itemB true true tL tN tP tS true k fn pl bl = false by simp only [itemB, hk, h2, h3] <;> simp)
    go_enter Tryz.func41, Tryz.ntmps41
    go_wp2_with (first
      | (go_at_call 69; ((with_reducible refine (color_calls sp p0 p1 p2 p3 _).mono ?_); rw [HC.out]; rintro E w1 ⟨rfl, hu1⟩; have z1 := hu1.size; (try simp at z1); have Rw1 : Row w1 w.heap.size #[.int .i64 k, .slice pa pl pc, .int .i64 sp, .int .i64 p0, .int .i64 p1, .int .i64 p2, .int .i64 p3, .slice ca cl cc, .int .i64 wd, .int .i64 cp, .int .i64 jn, .int .i64 mt, .slice da dl dc, .int .i64 ph, .int .i64 fn, .int .i64 m.a, .int .i64 m.b, .int .i64 m.c, .int .i64 m.d, .int .i64 m.x, .int .i64 m.y, .slice ba bl bc] := Row.up (show Row _ w.heap.size #[.int .i64 k, .slice pa pl pc, .int .i64 sp, .int .i64 p0, .int .i64 p1, .int .i64 p2, .int .i64 p3, .slice ca cl cc, .int .i64 wd, .int .i64 cp, .int .i64 jn, .int .i64 mt, .slice da dl dc, .int .i64 ph, .int .i64 fn, .int .i64 m.a, .int .i64 m.b, .int .i64 m.c, .int .i64 m.d, .int .i64 m.x, .int .i64 m.y, .slice ba bl bc] by (repeat' (with_reducible first | assumption | (refine Row.at _ _ ?_; (simp; done)) | refine Row.alloc ?_ _ | refine Row.drew ?_ | refine Row.drewN ?_ _ | refine Row.other ?_ (by first | (simp; done) | (simp; omega) | omega) _ | refine Row.up ?_ (by assumption) | refine Row.chg ?_ (by assumption) (by first | (simp; done) | (simp; omega))))) hu1; have lw1 := Rw1.lt; have qw1_0 : w1.cell? ⟨w.heap.size, 0, none⟩ = some (.int .i64 k) := Rw1.cell 0 rfl; have qw1_1 : w1.cell? ⟨w.heap.size, 1, none⟩ = some (.slice pa pl pc) := Rw1.cell 1 rfl; have qw1_7 : w1.cell? ⟨w.heap.size, 7, none⟩ = some (.slice ca cl cc) := Rw1.cell 7 rfl; have qw1_8 : w1.cell? ⟨w.heap.size, 8, none⟩ = some (.int .i64 wd) := Rw1.cell 8 rfl; have qw1_9 : w1.cell? ⟨w.heap.size, 9, none⟩ = some (.int .i64 cp) := Rw1.cell 9 rfl; have qw1_10 : w1.cell? ⟨w.heap.size, 10, none⟩ = some (.int .i64 jn) := Rw1.cell 10 rfl; have qw1_11 : w1.cell? ⟨w.heap.size, 11, none⟩ = some (.int .i64 mt) := Rw1.cell 11 rfl; have qw1_12 : w1.cell? ⟨w.heap.size, 12, none⟩ = some (.slice da dl dc) := Rw1.cell 12 rfl; have qw1_13 : w1.cell? ⟨w.heap.size, 13, none⟩ = some (.int .i64 ph) := Rw1.cell 13 rfl; have qw1_14 : w1.cell? ⟨w.heap.size, 14, none⟩ = some (.int .i64 fn) := Rw1.cell 14 rfl; have qw1_15 : w1.cell? ⟨w.heap.size, 15, none⟩ = some (.int .i64 m.a) := Rw1.cell 15 rfl; have qw1_16 : w1.cell? ⟨w.heap.size, 16, none⟩ = some (.int .i64 m.b) := Rw1.cell 16 rfl; have qw1_17 : w1.cell? ⟨w.heap.size, 17, none⟩ = some (.int .i64 m.c) := Rw1.cell 17 rfl; have qw1_18 : w1.cell? ⟨w.heap.size, 18, none⟩ = some (.int .i64 m.d) := Rw1.cell 18 rfl; have qw1_19 : w1.cell? ⟨w.heap.size, 19, none⟩ = some (.int .i64 m.x) := Rw1.cell 19 rfl; have qw1_20 : w1.cell? ⟨w.heap.size, 20, none⟩ = some (.int .i64 m.y) := Rw1.cell 20 rfl; have qw1_21 : w1.cell? ⟨w.heap.size, 21, none⟩ = some (.slice ba bl bc) := Rw1.cell 21 rfl))
      | (go_at_call 70; ((with_reducible refine (clips_calls cs ca cl cc _ (HL.out.up (by (repeat' (first | (with_reducible first | exact Up.refl _ | assumption | refine Up.alloc ?_ _ | refine Up.drew ?_ | refine Up.drewN ?_ _ | refine Up.setCell ?_ ?_ _ | refine Up.call ?_ (by assumption)) | go_size)))).sl (HL.out.up (by (repeat' (first | (with_reducible first | exact Up.refl _ | assumption | refine Up.alloc ?_ _ | refine Up.drew ?_ | refine Up.drewN ?_ _ | refine Up.setCell ?_ ?_ _ | refine Up.call ?_ (by assumption)) | go_size)))).sv).mono ?_); rw [HK.out]; rintro E w2 ⟨rfl, hu2⟩; have z2 := hu2.size; have Rw2 : Row w2 w.heap.size #[.int .i64 k, .slice pa pl pc, .int .i64 sp, .int .i64 p0, .int .i64 p1, .int .i64 p2, .int .i64 p3, .slice ca cl cc, .int .i64 wd, .int .i64 cp, .int .i64 jn, .int .i64 mt, .slice da dl dc, .int .i64 ph, .int .i64 fn, .int .i64 m.a, .int .i64 m.b, .int .i64 m.c, .int .i64 m.d, .int .i64 m.x, .int .i64 m.y, .slice ba bl bc] := Row.up (show Row _ w.heap.size #[.int .i64 k, .slice pa pl pc, .int .i64 sp, .int .i64 p0, .int .i64 p1, .int .i64 p2, .int .i64 p3, .slice ca cl cc, .int .i64 wd, .int .i64 cp, .int .i64 jn, .int .i64 mt, .slice da dl dc, .int .i64 ph, .int .i64 fn, .int .i64 m.a, .int .i64 m.b, .int .i64 m.c, .int .i64 m.d, .int .i64 m.x, .int .i64 m.y, .slice ba bl bc] by (repeat' (with_reducible first | assumption | (refine Row.at _ _ ?_; (simp; done)) | refine Row.alloc ?_ _ | refine Row.drew ?_ | refine Row.drewN ?_ _ | refine Row.other ?_ (by first | (simp; done) | (simp; omega) | omega) _ | refine Row.up ?_ (by assumption) | refine Row.chg ?_ (by assumption) (by first | (simp; done) | (simp; omega))))) hu2; have lw2 := Rw2.lt; have qw2_0 : w2.cell? ⟨w.heap.size, 0, none⟩ = some (.int .i64 k) := Rw2.cell 0 rfl; have qw2_1 : w2.cell? ⟨w.heap.size, 1, none⟩ = some (.slice pa pl pc) := Rw2.cell 1 rfl; have qw2_7 : w2.cell? ⟨w.heap.size, 7, none⟩ = some (.slice ca cl cc) := Rw2.cell 7 rfl; have qw2_8 : w2.cell? ⟨w.heap.size, 8, none⟩ = some (.int .i64 wd) := Rw2.cell 8 rfl; have qw2_9 : w2.cell? ⟨w.heap.size, 9, none⟩ = some (.int .i64 cp) := Rw2.cell 9 rfl; have qw2_10 : w2.cell? ⟨w.heap.size, 10, none⟩ = some (.int .i64 jn) := Rw2.cell 10 rfl; have qw2_11 : w2.cell? ⟨w.heap.size, 11, none⟩ = some (.int .i64 mt) := Rw2.cell 11 rfl; have qw2_12 : w2.cell? ⟨w.heap.size, 12, none⟩ = some (.slice da dl dc) := Rw2.cell 12 rfl; have qw2_13 : w2.cell? ⟨w.heap.size, 13, none⟩ = some (.int .i64 ph) := Rw2.cell 13 rfl; have qw2_14 : w2.cell? ⟨w.heap.size, 14, none⟩ = some (.int .i64 fn) := Rw2.cell 14 rfl; have qw2_15 : w2.cell? ⟨w.heap.size, 15, none⟩ = some (.int .i64 m.a) := Rw2.cell 15 rfl; have qw2_16 : w2.cell? ⟨w.heap.size, 16, none⟩ = some (.int .i64 m.b) := Rw2.cell 16 rfl; have qw2_17 : w2.cell? ⟨w.heap.size, 17, none⟩ = some (.int .i64 m.c) := Rw2.cell 17 rfl; have qw2_18 : w2.cell? ⟨w.heap.size, 18, none⟩ = some (.int .i64 m.d) := Rw2.cell 18 rfl; have qw2_19 : w2.cell? ⟨w.heap.size, 19, none⟩ = some (.int .i64 m.x) := Rw2.cell 19 rfl; have qw2_20 : w2.cell? ⟨w.heap.size, 20, none⟩ = some (.int .i64 m.y) := Rw2.cell 20 rfl; have qw2_21 : w2.cell? ⟨w.heap.size, 21, none⟩ = some (.slice ba bl bc) := Rw2.cell 21 rfl)))
    go_ret
    exact ⟨by rw [H.out]; rfl, by (repeat' (first | (with_reducible first | exact Up.refl _ | assumption | refine Up.alloc ?_ _ | refine Up.drew ?_ | refine Up.drewN ?_ _ | refine Up.setCell ?_ ?_ _ | refine Up.call ?_ (by assumption)) | go_size))⟩
  obtain ⟨b_h4, h4⟩ : ∃ b, ((pl : Int) == 0) = b := ⟨_, rfl⟩
  cases b_h4
  rotate_left
  · have H := Lib.hid (show itemB true true tL tN tP tS true k fn pl bl = false by simp only [itemB, hk, h2, h3, h4] <;> simp)
    go_enter Tryz.func41, Tryz.ntmps41
    go_wp2_with (first
      | (go_at_call 69; ((with_reducible refine (color_calls sp p0 p1 p2 p3 _).mono ?_); rw [HC.out]; rintro E w1 ⟨rfl, hu1⟩; have z1 := hu1.size; (try simp at z1); have Rw1 : Row w1 w.heap.size #[.int .i64 k, .slice pa pl pc, .int .i64 sp, .int .i64 p0, .int .i64 p1, .int .i64 p2, .int .i64 p3, .slice ca cl cc, .int .i64 wd, .int .i64 cp, .int .i64 jn, .int .i64 mt, .slice da dl dc, .int .i64 ph, .int .i64 fn, .int .i64 m.a, .int .i64 m.b, .int .i64 m.c, .int .i64 m.d, .int .i64 m.x, .int .i64 m.y, .slice ba bl bc] := Row.up (show Row _ w.heap.size #[.int .i64 k, .slice pa pl pc, .int .i64 sp, .int .i64 p0, .int .i64 p1, .int .i64 p2, .int .i64 p3, .slice ca cl cc, .int .i64 wd, .int .i64 cp, .int .i64 jn, .int .i64 mt, .slice da dl dc, .int .i64 ph, .int .i64 fn, .int .i64 m.a, .int .i64 m.b, .int .i64 m.c, .int .i64 m.d, .int .i64 m.x, .int .i64 m.y, .slice ba bl bc] by (repeat' (with_reducible first | assumption | (refine Row.at _ _ ?_; (simp; done)) | refine Row.alloc ?_ _ | refine Row.drew ?_ | refine Row.drewN ?_ _ | refine Row.other ?_ (by first | (simp; done) | (simp; omega) | omega) _ | refine Row.up ?_ (by assumption) | refine Row.chg ?_ (by assumption) (by first | (simp; done) | (simp; omega))))) hu1; have lw1 := Rw1.lt; have qw1_0 : w1.cell? ⟨w.heap.size, 0, none⟩ = some (.int .i64 k) := Rw1.cell 0 rfl; have qw1_1 : w1.cell? ⟨w.heap.size, 1, none⟩ = some (.slice pa pl pc) := Rw1.cell 1 rfl; have qw1_7 : w1.cell? ⟨w.heap.size, 7, none⟩ = some (.slice ca cl cc) := Rw1.cell 7 rfl; have qw1_8 : w1.cell? ⟨w.heap.size, 8, none⟩ = some (.int .i64 wd) := Rw1.cell 8 rfl; have qw1_9 : w1.cell? ⟨w.heap.size, 9, none⟩ = some (.int .i64 cp) := Rw1.cell 9 rfl; have qw1_10 : w1.cell? ⟨w.heap.size, 10, none⟩ = some (.int .i64 jn) := Rw1.cell 10 rfl; have qw1_11 : w1.cell? ⟨w.heap.size, 11, none⟩ = some (.int .i64 mt) := Rw1.cell 11 rfl; have qw1_12 : w1.cell? ⟨w.heap.size, 12, none⟩ = some (.slice da dl dc) := Rw1.cell 12 rfl; have qw1_13 : w1.cell? ⟨w.heap.size, 13, none⟩ = some (.int .i64 ph) := Rw1.cell 13 rfl; have qw1_14 : w1.cell? ⟨w.heap.size, 14, none⟩ = some (.int .i64 fn) := Rw1.cell 14 rfl; have qw1_15 : w1.cell? ⟨w.heap.size, 15, none⟩ = some (.int .i64 m.a) := Rw1.cell 15 rfl; have qw1_16 : w1.cell? ⟨w.heap.size, 16, none⟩ = some (.int .i64 m.b) := Rw1.cell 16 rfl; have qw1_17 : w1.cell? ⟨w.heap.size, 17, none⟩ = some (.int .i64 m.c) := Rw1.cell 17 rfl; have qw1_18 : w1.cell? ⟨w.heap.size, 18, none⟩ = some (.int .i64 m.d) := Rw1.cell 18 rfl; have qw1_19 : w1.cell? ⟨w.heap.size, 19, none⟩ = some (.int .i64 m.x) := Rw1.cell 19 rfl; have qw1_20 : w1.cell? ⟨w.heap.size, 20, none⟩ = some (.int .i64 m.y) := Rw1.cell 20 rfl; have qw1_21 : w1.cell? ⟨w.heap.size, 21, none⟩ = some (.slice ba bl bc) := Rw1.cell 21 rfl))
      | (go_at_call 70; ((with_reducible refine (clips_calls cs ca cl cc _ (HL.out.up (by (repeat' (first | (with_reducible first | exact Up.refl _ | assumption | refine Up.alloc ?_ _ | refine Up.drew ?_ | refine Up.drewN ?_ _ | refine Up.setCell ?_ ?_ _ | refine Up.call ?_ (by assumption)) | go_size)))).sl (HL.out.up (by (repeat' (first | (with_reducible first | exact Up.refl _ | assumption | refine Up.alloc ?_ _ | refine Up.drew ?_ | refine Up.drewN ?_ _ | refine Up.setCell ?_ ?_ _ | refine Up.call ?_ (by assumption)) | go_size)))).sv).mono ?_); rw [HK.out]; rintro E w2 ⟨rfl, hu2⟩; have z2 := hu2.size; have Rw2 : Row w2 w.heap.size #[.int .i64 k, .slice pa pl pc, .int .i64 sp, .int .i64 p0, .int .i64 p1, .int .i64 p2, .int .i64 p3, .slice ca cl cc, .int .i64 wd, .int .i64 cp, .int .i64 jn, .int .i64 mt, .slice da dl dc, .int .i64 ph, .int .i64 fn, .int .i64 m.a, .int .i64 m.b, .int .i64 m.c, .int .i64 m.d, .int .i64 m.x, .int .i64 m.y, .slice ba bl bc] := Row.up (show Row _ w.heap.size #[.int .i64 k, .slice pa pl pc, .int .i64 sp, .int .i64 p0, .int .i64 p1, .int .i64 p2, .int .i64 p3, .slice ca cl cc, .int .i64 wd, .int .i64 cp, .int .i64 jn, .int .i64 mt, .slice da dl dc, .int .i64 ph, .int .i64 fn, .int .i64 m.a, .int .i64 m.b, .int .i64 m.c, .int .i64 m.d, .int .i64 m.x, .int .i64 m.y, .slice ba bl bc] by (repeat' (with_reducible first | assumption | (refine Row.at _ _ ?_; (simp; done)) | refine Row.alloc ?_ _ | refine Row.drew ?_ | refine Row.drewN ?_ _ | refine Row.other ?_ (by first | (simp; done) | (simp; omega) | omega) _ | refine Row.up ?_ (by assumption) | refine Row.chg ?_ (by assumption) (by first | (simp; done) | (simp; omega))))) hu2; have lw2 := Rw2.lt; have qw2_0 : w2.cell? ⟨w.heap.size, 0, none⟩ = some (.int .i64 k) := Rw2.cell 0 rfl; have qw2_1 : w2.cell? ⟨w.heap.size, 1, none⟩ = some (.slice pa pl pc) := Rw2.cell 1 rfl; have qw2_7 : w2.cell? ⟨w.heap.size, 7, none⟩ = some (.slice ca cl cc) := Rw2.cell 7 rfl; have qw2_8 : w2.cell? ⟨w.heap.size, 8, none⟩ = some (.int .i64 wd) := Rw2.cell 8 rfl; have qw2_9 : w2.cell? ⟨w.heap.size, 9, none⟩ = some (.int .i64 cp) := Rw2.cell 9 rfl; have qw2_10 : w2.cell? ⟨w.heap.size, 10, none⟩ = some (.int .i64 jn) := Rw2.cell 10 rfl; have qw2_11 : w2.cell? ⟨w.heap.size, 11, none⟩ = some (.int .i64 mt) := Rw2.cell 11 rfl; have qw2_12 : w2.cell? ⟨w.heap.size, 12, none⟩ = some (.slice da dl dc) := Rw2.cell 12 rfl; have qw2_13 : w2.cell? ⟨w.heap.size, 13, none⟩ = some (.int .i64 ph) := Rw2.cell 13 rfl; have qw2_14 : w2.cell? ⟨w.heap.size, 14, none⟩ = some (.int .i64 fn) := Rw2.cell 14 rfl; have qw2_15 : w2.cell? ⟨w.heap.size, 15, none⟩ = some (.int .i64 m.a) := Rw2.cell 15 rfl; have qw2_16 : w2.cell? ⟨w.heap.size, 16, none⟩ = some (.int .i64 m.b) := Rw2.cell 16 rfl; have qw2_17 : w2.cell? ⟨w.heap.size, 17, none⟩ = some (.int .i64 m.c) := Rw2.cell 17 rfl; have qw2_18 : w2.cell? ⟨w.heap.size, 18, none⟩ = some (.int .i64 m.d) := Rw2.cell 18 rfl; have qw2_19 : w2.cell? ⟨w.heap.size, 19, none⟩ = some (.int .i64 m.x) := Rw2.cell 19 rfl; have qw2_20 : w2.cell? ⟨w.heap.size, 20, none⟩ = some (.int .i64 m.y) := Rw2.cell 20 rfl; have qw2_21 : w2.cell? ⟨w.heap.size, 21, none⟩ = some (.slice ba bl bc) := Rw2.cell 21 rfl)))
    go_ret
    exact ⟨by rw [H.out]; rfl, by (repeat' (first | (with_reducible first | exact Up.refl _ | assumption | refine Up.alloc ?_ _ | refine Up.drew ?_ | refine Up.drewN ?_ _ | refine Up.setCell ?_ ?_ _ | refine Up.call ?_ (by assumption)) | go_size))⟩
  cases tS
  · have H := Lib.hid (show itemB true true tL tN tP false true k fn pl bl = false by simp only [itemB, hk, h2, h3, h4] <;> simp)
    go_enter Tryz.func41, Tryz.ntmps41
    go_wp2_with (first
      | (go_at_call 69; ((with_reducible refine (color_calls sp p0 p1 p2 p3 _).mono ?_); rw [HC.out]; rintro E w1 ⟨rfl, hu1⟩; have z1 := hu1.size; (try simp at z1); have Rw1 : Row w1 w.heap.size #[.int .i64 k, .slice pa pl pc, .int .i64 sp, .int .i64 p0, .int .i64 p1, .int .i64 p2, .int .i64 p3, .slice ca cl cc, .int .i64 wd, .int .i64 cp, .int .i64 jn, .int .i64 mt, .slice da dl dc, .int .i64 ph, .int .i64 fn, .int .i64 m.a, .int .i64 m.b, .int .i64 m.c, .int .i64 m.d, .int .i64 m.x, .int .i64 m.y, .slice ba bl bc] := Row.up (show Row _ w.heap.size #[.int .i64 k, .slice pa pl pc, .int .i64 sp, .int .i64 p0, .int .i64 p1, .int .i64 p2, .int .i64 p3, .slice ca cl cc, .int .i64 wd, .int .i64 cp, .int .i64 jn, .int .i64 mt, .slice da dl dc, .int .i64 ph, .int .i64 fn, .int .i64 m.a, .int .i64 m.b, .int .i64 m.c, .int .i64 m.d, .int .i64 m.x, .int .i64 m.y, .slice ba bl bc] by (repeat' (with_reducible first | assumption | (refine Row.at _ _ ?_; (simp; done)) | refine Row.alloc ?_ _ | refine Row.drew ?_ | refine Row.drewN ?_ _ | refine Row.other ?_ (by first | (simp; done) | (simp; omega) | omega) _ | refine Row.up ?_ (by assumption) | refine Row.chg ?_ (by assumption) (by first | (simp; done) | (simp; omega))))) hu1; have lw1 := Rw1.lt; have qw1_0 : w1.cell? ⟨w.heap.size, 0, none⟩ = some (.int .i64 k) := Rw1.cell 0 rfl; have qw1_1 : w1.cell? ⟨w.heap.size, 1, none⟩ = some (.slice pa pl pc) := Rw1.cell 1 rfl; have qw1_7 : w1.cell? ⟨w.heap.size, 7, none⟩ = some (.slice ca cl cc) := Rw1.cell 7 rfl; have qw1_8 : w1.cell? ⟨w.heap.size, 8, none⟩ = some (.int .i64 wd) := Rw1.cell 8 rfl; have qw1_9 : w1.cell? ⟨w.heap.size, 9, none⟩ = some (.int .i64 cp) := Rw1.cell 9 rfl; have qw1_10 : w1.cell? ⟨w.heap.size, 10, none⟩ = some (.int .i64 jn) := Rw1.cell 10 rfl; have qw1_11 : w1.cell? ⟨w.heap.size, 11, none⟩ = some (.int .i64 mt) := Rw1.cell 11 rfl; have qw1_12 : w1.cell? ⟨w.heap.size, 12, none⟩ = some (.slice da dl dc) := Rw1.cell 12 rfl; have qw1_13 : w1.cell? ⟨w.heap.size, 13, none⟩ = some (.int .i64 ph) := Rw1.cell 13 rfl; have qw1_14 : w1.cell? ⟨w.heap.size, 14, none⟩ = some (.int .i64 fn) := Rw1.cell 14 rfl; have qw1_15 : w1.cell? ⟨w.heap.size, 15, none⟩ = some (.int .i64 m.a) := Rw1.cell 15 rfl; have qw1_16 : w1.cell? ⟨w.heap.size, 16, none⟩ = some (.int .i64 m.b) := Rw1.cell 16 rfl; have qw1_17 : w1.cell? ⟨w.heap.size, 17, none⟩ = some (.int .i64 m.c) := Rw1.cell 17 rfl; have qw1_18 : w1.cell? ⟨w.heap.size, 18, none⟩ = some (.int .i64 m.d) := Rw1.cell 18 rfl; have qw1_19 : w1.cell? ⟨w.heap.size, 19, none⟩ = some (.int .i64 m.x) := Rw1.cell 19 rfl; have qw1_20 : w1.cell? ⟨w.heap.size, 20, none⟩ = some (.int .i64 m.y) := Rw1.cell 20 rfl; have qw1_21 : w1.cell? ⟨w.heap.size, 21, none⟩ = some (.slice ba bl bc) := Rw1.cell 21 rfl))
      | (go_at_call 70; ((with_reducible refine (clips_calls cs ca cl cc _ (HL.out.up (by (repeat' (first | (with_reducible first | exact Up.refl _ | assumption | refine Up.alloc ?_ _ | refine Up.drew ?_ | refine Up.drewN ?_ _ | refine Up.setCell ?_ ?_ _ | refine Up.call ?_ (by assumption)) | go_size)))).sl (HL.out.up (by (repeat' (first | (with_reducible first | exact Up.refl _ | assumption | refine Up.alloc ?_ _ | refine Up.drew ?_ | refine Up.drewN ?_ _ | refine Up.setCell ?_ ?_ _ | refine Up.call ?_ (by assumption)) | go_size)))).sv).mono ?_); rw [HK.out]; rintro E w2 ⟨rfl, hu2⟩; have z2 := hu2.size; have Rw2 : Row w2 w.heap.size #[.int .i64 k, .slice pa pl pc, .int .i64 sp, .int .i64 p0, .int .i64 p1, .int .i64 p2, .int .i64 p3, .slice ca cl cc, .int .i64 wd, .int .i64 cp, .int .i64 jn, .int .i64 mt, .slice da dl dc, .int .i64 ph, .int .i64 fn, .int .i64 m.a, .int .i64 m.b, .int .i64 m.c, .int .i64 m.d, .int .i64 m.x, .int .i64 m.y, .slice ba bl bc] := Row.up (show Row _ w.heap.size #[.int .i64 k, .slice pa pl pc, .int .i64 sp, .int .i64 p0, .int .i64 p1, .int .i64 p2, .int .i64 p3, .slice ca cl cc, .int .i64 wd, .int .i64 cp, .int .i64 jn, .int .i64 mt, .slice da dl dc, .int .i64 ph, .int .i64 fn, .int .i64 m.a, .int .i64 m.b, .int .i64 m.c, .int .i64 m.d, .int .i64 m.x, .int .i64 m.y, .slice ba bl bc] by (repeat' (with_reducible first | assumption | (refine Row.at _ _ ?_; (simp; done)) | refine Row.alloc ?_ _ | refine Row.drew ?_ | refine Row.drewN ?_ _ | refine Row.other ?_ (by first | (simp; done) | (simp; omega) | omega) _ | refine Row.up ?_ (by assumption) | refine Row.chg ?_ (by assumption) (by first | (simp; done) | (simp; omega))))) hu2; have lw2 := Rw2.lt; have qw2_0 : w2.cell? ⟨w.heap.size, 0, none⟩ = some (.int .i64 k) := Rw2.cell 0 rfl; have qw2_1 : w2.cell? ⟨w.heap.size, 1, none⟩ = some (.slice pa pl pc) := Rw2.cell 1 rfl; have qw2_7 : w2.cell? ⟨w.heap.size, 7, none⟩ = some (.slice ca cl cc) := Rw2.cell 7 rfl; have qw2_8 : w2.cell? ⟨w.heap.size, 8, none⟩ = some (.int .i64 wd) := Rw2.cell 8 rfl; have qw2_9 : w2.cell? ⟨w.heap.size, 9, none⟩ = some (.int .i64 cp) := Rw2.cell 9 rfl; have qw2_10 : w2.cell? ⟨w.heap.size, 10, none⟩ = some (.int .i64 jn) := Rw2.cell 10 rfl; have qw2_11 : w2.cell? ⟨w.heap.size, 11, none⟩ = some (.int .i64 mt) := Rw2.cell 11 rfl; have qw2_12 : w2.cell? ⟨w.heap.size, 12, none⟩ = some (.slice da dl dc) := Rw2.cell 12 rfl; have qw2_13 : w2.cell? ⟨w.heap.size, 13, none⟩ = some (.int .i64 ph) := Rw2.cell 13 rfl; have qw2_14 : w2.cell? ⟨w.heap.size, 14, none⟩ = some (.int .i64 fn) := Rw2.cell 14 rfl; have qw2_15 : w2.cell? ⟨w.heap.size, 15, none⟩ = some (.int .i64 m.a) := Rw2.cell 15 rfl; have qw2_16 : w2.cell? ⟨w.heap.size, 16, none⟩ = some (.int .i64 m.b) := Rw2.cell 16 rfl; have qw2_17 : w2.cell? ⟨w.heap.size, 17, none⟩ = some (.int .i64 m.c) := Rw2.cell 17 rfl; have qw2_18 : w2.cell? ⟨w.heap.size, 18, none⟩ = some (.int .i64 m.d) := Rw2.cell 18 rfl; have qw2_19 : w2.cell? ⟨w.heap.size, 19, none⟩ = some (.int .i64 m.x) := Rw2.cell 19 rfl; have qw2_20 : w2.cell? ⟨w.heap.size, 20, none⟩ = some (.int .i64 m.y) := Rw2.cell 20 rfl; have qw2_21 : w2.cell? ⟨w.heap.size, 21, none⟩ = some (.slice ba bl bc) := Rw2.cell 21 rfl))
      | (go_at_call 73; ((with_reducible refine (Path.sound_calls (.slice pa pl pc) l _ (HL.out.up (by (repeat' (first | (with_reducible first | exact Up.refl _ | assumption | refine Up.alloc ?_ _ | refine Up.drew ?_ | refine Up.drewN ?_ _ | refine Up.setCell ?_ ?_ _ | refine Up.call ?_ (by assumption)) | go_size)))).pv).mono ?_); rw [HSO.out]; rintro E w5 ⟨rfl, hu5⟩; have z5 := hu5.size; have Rw5 : Row w5 w.heap.size #[.int .i64 k, .slice pa pl pc, .int .i64 sp, .int .i64 p0, .int .i64 p1, .int .i64 p2, .int .i64 p3, .slice ca cl cc, .int .i64 wd, .int .i64 cp, .int .i64 jn, .int .i64 mt, .slice da dl dc, .int .i64 ph, .int .i64 fn, .int .i64 m.a, .int .i64 m.b, .int .i64 m.c, .int .i64 m.d, .int .i64 m.x, .int .i64 m.y, .slice ba bl bc] := Row.up (show Row _ w.heap.size #[.int .i64 k, .slice pa pl pc, .int .i64 sp, .int .i64 p0, .int .i64 p1, .int .i64 p2, .int .i64 p3, .slice ca cl cc, .int .i64 wd, .int .i64 cp, .int .i64 jn, .int .i64 mt, .slice da dl dc, .int .i64 ph, .int .i64 fn, .int .i64 m.a, .int .i64 m.b, .int .i64 m.c, .int .i64 m.d, .int .i64 m.x, .int .i64 m.y, .slice ba bl bc] by (repeat' (with_reducible first | assumption | (refine Row.at _ _ ?_; (simp; done)) | refine Row.alloc ?_ _ | refine Row.drew ?_ | refine Row.drewN ?_ _ | refine Row.other ?_ (by first | (simp; done) | (simp; omega) | omega) _ | refine Row.up ?_ (by assumption) | refine Row.chg ?_ (by assumption) (by first | (simp; done) | (simp; omega))))) hu5; have lw5 := Rw5.lt; have qw5_0 : w5.cell? ⟨w.heap.size, 0, none⟩ = some (.int .i64 k) := Rw5.cell 0 rfl; have qw5_1 : w5.cell? ⟨w.heap.size, 1, none⟩ = some (.slice pa pl pc) := Rw5.cell 1 rfl; have qw5_7 : w5.cell? ⟨w.heap.size, 7, none⟩ = some (.slice ca cl cc) := Rw5.cell 7 rfl; have qw5_8 : w5.cell? ⟨w.heap.size, 8, none⟩ = some (.int .i64 wd) := Rw5.cell 8 rfl; have qw5_9 : w5.cell? ⟨w.heap.size, 9, none⟩ = some (.int .i64 cp) := Rw5.cell 9 rfl; have qw5_10 : w5.cell? ⟨w.heap.size, 10, none⟩ = some (.int .i64 jn) := Rw5.cell 10 rfl; have qw5_11 : w5.cell? ⟨w.heap.size, 11, none⟩ = some (.int .i64 mt) := Rw5.cell 11 rfl; have qw5_12 : w5.cell? ⟨w.heap.size, 12, none⟩ = some (.slice da dl dc) := Rw5.cell 12 rfl; have qw5_13 : w5.cell? ⟨w.heap.size, 13, none⟩ = some (.int .i64 ph) := Rw5.cell 13 rfl; have qw5_14 : w5.cell? ⟨w.heap.size, 14, none⟩ = some (.int .i64 fn) := Rw5.cell 14 rfl; have qw5_15 : w5.cell? ⟨w.heap.size, 15, none⟩ = some (.int .i64 m.a) := Rw5.cell 15 rfl; have qw5_16 : w5.cell? ⟨w.heap.size, 16, none⟩ = some (.int .i64 m.b) := Rw5.cell 16 rfl; have qw5_17 : w5.cell? ⟨w.heap.size, 17, none⟩ = some (.int .i64 m.c) := Rw5.cell 17 rfl; have qw5_18 : w5.cell? ⟨w.heap.size, 18, none⟩ = some (.int .i64 m.d) := Rw5.cell 18 rfl; have qw5_19 : w5.cell? ⟨w.heap.size, 19, none⟩ = some (.int .i64 m.x) := Rw5.cell 19 rfl; have qw5_20 : w5.cell? ⟨w.heap.size, 20, none⟩ = some (.int .i64 m.y) := Rw5.cell 20 rfl; have qw5_21 : w5.cell? ⟨w.heap.size, 21, none⟩ = some (.slice ba bl bc) := Rw5.cell 21 rfl)))
    go_ret
    exact ⟨by rw [H.out]; rfl, by (repeat' (first | (with_reducible first | exact Up.refl _ | assumption | refine Up.alloc ?_ _ | refine Up.drew ?_ | refine Up.drewN ?_ _ | refine Up.setCell ?_ ?_ _ | refine Up.call ?_ (by assumption)) | go_size))⟩
  by_cases h5 : k = 1
  · subst h5
    have H := Lib.hid (show itemB true true tL tN tP true true 1 fn pl bl = tN by simp only [itemB, h2, h3, h4] <;> simp)
    go_enter Tryz.func41, Tryz.ntmps41
    go_wp2_with (first
      | (go_at_call 69; ((with_reducible refine (color_calls sp p0 p1 p2 p3 _).mono ?_); rw [HC.out]; rintro E w1 ⟨rfl, hu1⟩; have z1 := hu1.size; (try simp at z1); have Rw1 : Row w1 w.heap.size #[.int .i64 1, .slice pa pl pc, .int .i64 sp, .int .i64 p0, .int .i64 p1, .int .i64 p2, .int .i64 p3, .slice ca cl cc, .int .i64 wd, .int .i64 cp, .int .i64 jn, .int .i64 mt, .slice da dl dc, .int .i64 ph, .int .i64 fn, .int .i64 m.a, .int .i64 m.b, .int .i64 m.c, .int .i64 m.d, .int .i64 m.x, .int .i64 m.y, .slice ba bl bc] := Row.up (show Row _ w.heap.size #[.int .i64 1, .slice pa pl pc, .int .i64 sp, .int .i64 p0, .int .i64 p1, .int .i64 p2, .int .i64 p3, .slice ca cl cc, .int .i64 wd, .int .i64 cp, .int .i64 jn, .int .i64 mt, .slice da dl dc, .int .i64 ph, .int .i64 fn, .int .i64 m.a, .int .i64 m.b, .int .i64 m.c, .int .i64 m.d, .int .i64 m.x, .int .i64 m.y, .slice ba bl bc] by (repeat' (with_reducible first | assumption | (refine Row.at _ _ ?_; (simp; done)) | refine Row.alloc ?_ _ | refine Row.drew ?_ | refine Row.drewN ?_ _ | refine Row.other ?_ (by first | (simp; done) | (simp; omega) | omega) _ | refine Row.up ?_ (by assumption) | refine Row.chg ?_ (by assumption) (by first | (simp; done) | (simp; omega))))) hu1; have lw1 := Rw1.lt; have qw1_0 : w1.cell? ⟨w.heap.size, 0, none⟩ = some (.int .i64 1) := Rw1.cell 0 rfl; have qw1_1 : w1.cell? ⟨w.heap.size, 1, none⟩ = some (.slice pa pl pc) := Rw1.cell 1 rfl; have qw1_7 : w1.cell? ⟨w.heap.size, 7, none⟩ = some (.slice ca cl cc) := Rw1.cell 7 rfl; have qw1_8 : w1.cell? ⟨w.heap.size, 8, none⟩ = some (.int .i64 wd) := Rw1.cell 8 rfl; have qw1_9 : w1.cell? ⟨w.heap.size, 9, none⟩ = some (.int .i64 cp) := Rw1.cell 9 rfl; have qw1_10 : w1.cell? ⟨w.heap.size, 10, none⟩ = some (.int .i64 jn) := Rw1.cell 10 rfl; have qw1_11 : w1.cell? ⟨w.heap.size, 11, none⟩ = some (.int .i64 mt) := Rw1.cell 11 rfl; have qw1_12 : w1.cell? ⟨w.heap.size, 12, none⟩ = some (.slice da dl dc) := Rw1.cell 12 rfl; have qw1_13 : w1.cell? ⟨w.heap.size, 13, none⟩ = some (.int .i64 ph) := Rw1.cell 13 rfl; have qw1_14 : w1.cell? ⟨w.heap.size, 14, none⟩ = some (.int .i64 fn) := Rw1.cell 14 rfl; have qw1_15 : w1.cell? ⟨w.heap.size, 15, none⟩ = some (.int .i64 m.a) := Rw1.cell 15 rfl; have qw1_16 : w1.cell? ⟨w.heap.size, 16, none⟩ = some (.int .i64 m.b) := Rw1.cell 16 rfl; have qw1_17 : w1.cell? ⟨w.heap.size, 17, none⟩ = some (.int .i64 m.c) := Rw1.cell 17 rfl; have qw1_18 : w1.cell? ⟨w.heap.size, 18, none⟩ = some (.int .i64 m.d) := Rw1.cell 18 rfl; have qw1_19 : w1.cell? ⟨w.heap.size, 19, none⟩ = some (.int .i64 m.x) := Rw1.cell 19 rfl; have qw1_20 : w1.cell? ⟨w.heap.size, 20, none⟩ = some (.int .i64 m.y) := Rw1.cell 20 rfl; have qw1_21 : w1.cell? ⟨w.heap.size, 21, none⟩ = some (.slice ba bl bc) := Rw1.cell 21 rfl))
      | (go_at_call 70; ((with_reducible refine (clips_calls cs ca cl cc _ (HL.out.up (by (repeat' (first | (with_reducible first | exact Up.refl _ | assumption | refine Up.alloc ?_ _ | refine Up.drew ?_ | refine Up.drewN ?_ _ | refine Up.setCell ?_ ?_ _ | refine Up.call ?_ (by assumption)) | go_size)))).sl (HL.out.up (by (repeat' (first | (with_reducible first | exact Up.refl _ | assumption | refine Up.alloc ?_ _ | refine Up.drew ?_ | refine Up.drewN ?_ _ | refine Up.setCell ?_ ?_ _ | refine Up.call ?_ (by assumption)) | go_size)))).sv).mono ?_); rw [HK.out]; rintro E w2 ⟨rfl, hu2⟩; have z2 := hu2.size; have Rw2 : Row w2 w.heap.size #[.int .i64 1, .slice pa pl pc, .int .i64 sp, .int .i64 p0, .int .i64 p1, .int .i64 p2, .int .i64 p3, .slice ca cl cc, .int .i64 wd, .int .i64 cp, .int .i64 jn, .int .i64 mt, .slice da dl dc, .int .i64 ph, .int .i64 fn, .int .i64 m.a, .int .i64 m.b, .int .i64 m.c, .int .i64 m.d, .int .i64 m.x, .int .i64 m.y, .slice ba bl bc] := Row.up (show Row _ w.heap.size #[.int .i64 1, .slice pa pl pc, .int .i64 sp, .int .i64 p0, .int .i64 p1, .int .i64 p2, .int .i64 p3, .slice ca cl cc, .int .i64 wd, .int .i64 cp, .int .i64 jn, .int .i64 mt, .slice da dl dc, .int .i64 ph, .int .i64 fn, .int .i64 m.a, .int .i64 m.b, .int .i64 m.c, .int .i64 m.d, .int .i64 m.x, .int .i64 m.y, .slice ba bl bc] by (repeat' (with_reducible first | assumption | (refine Row.at _ _ ?_; (simp; done)) | refine Row.alloc ?_ _ | refine Row.drew ?_ | refine Row.drewN ?_ _ | refine Row.other ?_ (by first | (simp; done) | (simp; omega) | omega) _ | refine Row.up ?_ (by assumption) | refine Row.chg ?_ (by assumption) (by first | (simp; done) | (simp; omega))))) hu2; have lw2 := Rw2.lt; have qw2_0 : w2.cell? ⟨w.heap.size, 0, none⟩ = some (.int .i64 1) := Rw2.cell 0 rfl; have qw2_1 : w2.cell? ⟨w.heap.size, 1, none⟩ = some (.slice pa pl pc) := Rw2.cell 1 rfl; have qw2_7 : w2.cell? ⟨w.heap.size, 7, none⟩ = some (.slice ca cl cc) := Rw2.cell 7 rfl; have qw2_8 : w2.cell? ⟨w.heap.size, 8, none⟩ = some (.int .i64 wd) := Rw2.cell 8 rfl; have qw2_9 : w2.cell? ⟨w.heap.size, 9, none⟩ = some (.int .i64 cp) := Rw2.cell 9 rfl; have qw2_10 : w2.cell? ⟨w.heap.size, 10, none⟩ = some (.int .i64 jn) := Rw2.cell 10 rfl; have qw2_11 : w2.cell? ⟨w.heap.size, 11, none⟩ = some (.int .i64 mt) := Rw2.cell 11 rfl; have qw2_12 : w2.cell? ⟨w.heap.size, 12, none⟩ = some (.slice da dl dc) := Rw2.cell 12 rfl; have qw2_13 : w2.cell? ⟨w.heap.size, 13, none⟩ = some (.int .i64 ph) := Rw2.cell 13 rfl; have qw2_14 : w2.cell? ⟨w.heap.size, 14, none⟩ = some (.int .i64 fn) := Rw2.cell 14 rfl; have qw2_15 : w2.cell? ⟨w.heap.size, 15, none⟩ = some (.int .i64 m.a) := Rw2.cell 15 rfl; have qw2_16 : w2.cell? ⟨w.heap.size, 16, none⟩ = some (.int .i64 m.b) := Rw2.cell 16 rfl; have qw2_17 : w2.cell? ⟨w.heap.size, 17, none⟩ = some (.int .i64 m.c) := Rw2.cell 17 rfl; have qw2_18 : w2.cell? ⟨w.heap.size, 18, none⟩ = some (.int .i64 m.d) := Rw2.cell 18 rfl; have qw2_19 : w2.cell? ⟨w.heap.size, 19, none⟩ = some (.int .i64 m.x) := Rw2.cell 19 rfl; have qw2_20 : w2.cell? ⟨w.heap.size, 20, none⟩ = some (.int .i64 m.y) := Rw2.cell 20 rfl; have qw2_21 : w2.cell? ⟨w.heap.size, 21, none⟩ = some (.slice ba bl bc) := Rw2.cell 21 rfl))
      | (go_at_call 73; ((with_reducible refine (Path.sound_calls (.slice pa pl pc) l _ (HL.out.up (by (repeat' (first | (with_reducible first | exact Up.refl _ | assumption | refine Up.alloc ?_ _ | refine Up.drew ?_ | refine Up.drewN ?_ _ | refine Up.setCell ?_ ?_ _ | refine Up.call ?_ (by assumption)) | go_size)))).pv).mono ?_); rw [HSO.out]; rintro E w5 ⟨rfl, hu5⟩; have z5 := hu5.size; have Rw5 : Row w5 w.heap.size #[.int .i64 1, .slice pa pl pc, .int .i64 sp, .int .i64 p0, .int .i64 p1, .int .i64 p2, .int .i64 p3, .slice ca cl cc, .int .i64 wd, .int .i64 cp, .int .i64 jn, .int .i64 mt, .slice da dl dc, .int .i64 ph, .int .i64 fn, .int .i64 m.a, .int .i64 m.b, .int .i64 m.c, .int .i64 m.d, .int .i64 m.x, .int .i64 m.y, .slice ba bl bc] := Row.up (show Row _ w.heap.size #[.int .i64 1, .slice pa pl pc, .int .i64 sp, .int .i64 p0, .int .i64 p1, .int .i64 p2, .int .i64 p3, .slice ca cl cc, .int .i64 wd, .int .i64 cp, .int .i64 jn, .int .i64 mt, .slice da dl dc, .int .i64 ph, .int .i64 fn, .int .i64 m.a, .int .i64 m.b, .int .i64 m.c, .int .i64 m.d, .int .i64 m.x, .int .i64 m.y, .slice ba bl bc] by (repeat' (with_reducible first | assumption | (refine Row.at _ _ ?_; (simp; done)) | refine Row.alloc ?_ _ | refine Row.drew ?_ | refine Row.drewN ?_ _ | refine Row.other ?_ (by first | (simp; done) | (simp; omega) | omega) _ | refine Row.up ?_ (by assumption) | refine Row.chg ?_ (by assumption) (by first | (simp; done) | (simp; omega))))) hu5; have lw5 := Rw5.lt; have qw5_0 : w5.cell? ⟨w.heap.size, 0, none⟩ = some (.int .i64 1) := Rw5.cell 0 rfl; have qw5_1 : w5.cell? ⟨w.heap.size, 1, none⟩ = some (.slice pa pl pc) := Rw5.cell 1 rfl; have qw5_7 : w5.cell? ⟨w.heap.size, 7, none⟩ = some (.slice ca cl cc) := Rw5.cell 7 rfl; have qw5_8 : w5.cell? ⟨w.heap.size, 8, none⟩ = some (.int .i64 wd) := Rw5.cell 8 rfl; have qw5_9 : w5.cell? ⟨w.heap.size, 9, none⟩ = some (.int .i64 cp) := Rw5.cell 9 rfl; have qw5_10 : w5.cell? ⟨w.heap.size, 10, none⟩ = some (.int .i64 jn) := Rw5.cell 10 rfl; have qw5_11 : w5.cell? ⟨w.heap.size, 11, none⟩ = some (.int .i64 mt) := Rw5.cell 11 rfl; have qw5_12 : w5.cell? ⟨w.heap.size, 12, none⟩ = some (.slice da dl dc) := Rw5.cell 12 rfl; have qw5_13 : w5.cell? ⟨w.heap.size, 13, none⟩ = some (.int .i64 ph) := Rw5.cell 13 rfl; have qw5_14 : w5.cell? ⟨w.heap.size, 14, none⟩ = some (.int .i64 fn) := Rw5.cell 14 rfl; have qw5_15 : w5.cell? ⟨w.heap.size, 15, none⟩ = some (.int .i64 m.a) := Rw5.cell 15 rfl; have qw5_16 : w5.cell? ⟨w.heap.size, 16, none⟩ = some (.int .i64 m.b) := Rw5.cell 16 rfl; have qw5_17 : w5.cell? ⟨w.heap.size, 17, none⟩ = some (.int .i64 m.c) := Rw5.cell 17 rfl; have qw5_18 : w5.cell? ⟨w.heap.size, 18, none⟩ = some (.int .i64 m.d) := Rw5.cell 18 rfl; have qw5_19 : w5.cell? ⟨w.heap.size, 19, none⟩ = some (.int .i64 m.x) := Rw5.cell 19 rfl; have qw5_20 : w5.cell? ⟨w.heap.size, 20, none⟩ = some (.int .i64 m.y) := Rw5.cell 20 rfl; have qw5_21 : w5.cell? ⟨w.heap.size, 21, none⟩ = some (.slice ba bl bc) := Rw5.cell 21 rfl))
      | (go_at_call 72; ((with_reducible refine (none_calls wd cp jn mt ph da dl dc _).mono ?_); rw [HNO.out]; rintro E w4 ⟨rfl, hu4⟩)))
    go_ret
    exact ⟨by rw [H.out]; rfl, by (repeat' (first | (with_reducible first | exact Up.refl _ | assumption | refine Up.alloc ?_ _ | refine Up.drew ?_ | refine Up.drewN ?_ _ | refine Up.setCell ?_ ?_ _ | refine Up.call ?_ (by assumption)) | go_size))⟩
  have e1 : (k == 1) = false := by simpa using h5
  by_cases h6 : k = 2
  · subst h6
    have H := Lib.hid (show itemB true true tL tN tP true true 2 fn pl bl = tN by simp only [itemB, h2, h3, h4] <;> simp)
    go_enter Tryz.func41, Tryz.ntmps41
    go_wp2_with (first
      | (go_at_call 69; ((with_reducible refine (color_calls sp p0 p1 p2 p3 _).mono ?_); rw [HC.out]; rintro E w1 ⟨rfl, hu1⟩; have z1 := hu1.size; (try simp at z1); have Rw1 : Row w1 w.heap.size #[.int .i64 2, .slice pa pl pc, .int .i64 sp, .int .i64 p0, .int .i64 p1, .int .i64 p2, .int .i64 p3, .slice ca cl cc, .int .i64 wd, .int .i64 cp, .int .i64 jn, .int .i64 mt, .slice da dl dc, .int .i64 ph, .int .i64 fn, .int .i64 m.a, .int .i64 m.b, .int .i64 m.c, .int .i64 m.d, .int .i64 m.x, .int .i64 m.y, .slice ba bl bc] := Row.up (show Row _ w.heap.size #[.int .i64 2, .slice pa pl pc, .int .i64 sp, .int .i64 p0, .int .i64 p1, .int .i64 p2, .int .i64 p3, .slice ca cl cc, .int .i64 wd, .int .i64 cp, .int .i64 jn, .int .i64 mt, .slice da dl dc, .int .i64 ph, .int .i64 fn, .int .i64 m.a, .int .i64 m.b, .int .i64 m.c, .int .i64 m.d, .int .i64 m.x, .int .i64 m.y, .slice ba bl bc] by (repeat' (with_reducible first | assumption | (refine Row.at _ _ ?_; (simp; done)) | refine Row.alloc ?_ _ | refine Row.drew ?_ | refine Row.drewN ?_ _ | refine Row.other ?_ (by first | (simp; done) | (simp; omega) | omega) _ | refine Row.up ?_ (by assumption) | refine Row.chg ?_ (by assumption) (by first | (simp; done) | (simp; omega))))) hu1; have lw1 := Rw1.lt; have qw1_0 : w1.cell? ⟨w.heap.size, 0, none⟩ = some (.int .i64 2) := Rw1.cell 0 rfl; have qw1_1 : w1.cell? ⟨w.heap.size, 1, none⟩ = some (.slice pa pl pc) := Rw1.cell 1 rfl; have qw1_7 : w1.cell? ⟨w.heap.size, 7, none⟩ = some (.slice ca cl cc) := Rw1.cell 7 rfl; have qw1_8 : w1.cell? ⟨w.heap.size, 8, none⟩ = some (.int .i64 wd) := Rw1.cell 8 rfl; have qw1_9 : w1.cell? ⟨w.heap.size, 9, none⟩ = some (.int .i64 cp) := Rw1.cell 9 rfl; have qw1_10 : w1.cell? ⟨w.heap.size, 10, none⟩ = some (.int .i64 jn) := Rw1.cell 10 rfl; have qw1_11 : w1.cell? ⟨w.heap.size, 11, none⟩ = some (.int .i64 mt) := Rw1.cell 11 rfl; have qw1_12 : w1.cell? ⟨w.heap.size, 12, none⟩ = some (.slice da dl dc) := Rw1.cell 12 rfl; have qw1_13 : w1.cell? ⟨w.heap.size, 13, none⟩ = some (.int .i64 ph) := Rw1.cell 13 rfl; have qw1_14 : w1.cell? ⟨w.heap.size, 14, none⟩ = some (.int .i64 fn) := Rw1.cell 14 rfl; have qw1_15 : w1.cell? ⟨w.heap.size, 15, none⟩ = some (.int .i64 m.a) := Rw1.cell 15 rfl; have qw1_16 : w1.cell? ⟨w.heap.size, 16, none⟩ = some (.int .i64 m.b) := Rw1.cell 16 rfl; have qw1_17 : w1.cell? ⟨w.heap.size, 17, none⟩ = some (.int .i64 m.c) := Rw1.cell 17 rfl; have qw1_18 : w1.cell? ⟨w.heap.size, 18, none⟩ = some (.int .i64 m.d) := Rw1.cell 18 rfl; have qw1_19 : w1.cell? ⟨w.heap.size, 19, none⟩ = some (.int .i64 m.x) := Rw1.cell 19 rfl; have qw1_20 : w1.cell? ⟨w.heap.size, 20, none⟩ = some (.int .i64 m.y) := Rw1.cell 20 rfl; have qw1_21 : w1.cell? ⟨w.heap.size, 21, none⟩ = some (.slice ba bl bc) := Rw1.cell 21 rfl))
      | (go_at_call 70; ((with_reducible refine (clips_calls cs ca cl cc _ (HL.out.up (by (repeat' (first | (with_reducible first | exact Up.refl _ | assumption | refine Up.alloc ?_ _ | refine Up.drew ?_ | refine Up.drewN ?_ _ | refine Up.setCell ?_ ?_ _ | refine Up.call ?_ (by assumption)) | go_size)))).sl (HL.out.up (by (repeat' (first | (with_reducible first | exact Up.refl _ | assumption | refine Up.alloc ?_ _ | refine Up.drew ?_ | refine Up.drewN ?_ _ | refine Up.setCell ?_ ?_ _ | refine Up.call ?_ (by assumption)) | go_size)))).sv).mono ?_); rw [HK.out]; rintro E w2 ⟨rfl, hu2⟩; have z2 := hu2.size; have Rw2 : Row w2 w.heap.size #[.int .i64 2, .slice pa pl pc, .int .i64 sp, .int .i64 p0, .int .i64 p1, .int .i64 p2, .int .i64 p3, .slice ca cl cc, .int .i64 wd, .int .i64 cp, .int .i64 jn, .int .i64 mt, .slice da dl dc, .int .i64 ph, .int .i64 fn, .int .i64 m.a, .int .i64 m.b, .int .i64 m.c, .int .i64 m.d, .int .i64 m.x, .int .i64 m.y, .slice ba bl bc] := Row.up (show Row _ w.heap.size #[.int .i64 2, .slice pa pl pc, .int .i64 sp, .int .i64 p0, .int .i64 p1, .int .i64 p2, .int .i64 p3, .slice ca cl cc, .int .i64 wd, .int .i64 cp, .int .i64 jn, .int .i64 mt, .slice da dl dc, .int .i64 ph, .int .i64 fn, .int .i64 m.a, .int .i64 m.b, .int .i64 m.c, .int .i64 m.d, .int .i64 m.x, .int .i64 m.y, .slice ba bl bc] by (repeat' (with_reducible first | assumption | (refine Row.at _ _ ?_; (simp; done)) | refine Row.alloc ?_ _ | refine Row.drew ?_ | refine Row.drewN ?_ _ | refine Row.other ?_ (by first | (simp; done) | (simp; omega) | omega) _ | refine Row.up ?_ (by assumption) | refine Row.chg ?_ (by assumption) (by first | (simp; done) | (simp; omega))))) hu2; have lw2 := Rw2.lt; have qw2_0 : w2.cell? ⟨w.heap.size, 0, none⟩ = some (.int .i64 2) := Rw2.cell 0 rfl; have qw2_1 : w2.cell? ⟨w.heap.size, 1, none⟩ = some (.slice pa pl pc) := Rw2.cell 1 rfl; have qw2_7 : w2.cell? ⟨w.heap.size, 7, none⟩ = some (.slice ca cl cc) := Rw2.cell 7 rfl; have qw2_8 : w2.cell? ⟨w.heap.size, 8, none⟩ = some (.int .i64 wd) := Rw2.cell 8 rfl; have qw2_9 : w2.cell? ⟨w.heap.size, 9, none⟩ = some (.int .i64 cp) := Rw2.cell 9 rfl; have qw2_10 : w2.cell? ⟨w.heap.size, 10, none⟩ = some (.int .i64 jn) := Rw2.cell 10 rfl; have qw2_11 : w2.cell? ⟨w.heap.size, 11, none⟩ = some (.int .i64 mt) := Rw2.cell 11 rfl; have qw2_12 : w2.cell? ⟨w.heap.size, 12, none⟩ = some (.slice da dl dc) := Rw2.cell 12 rfl; have qw2_13 : w2.cell? ⟨w.heap.size, 13, none⟩ = some (.int .i64 ph) := Rw2.cell 13 rfl; have qw2_14 : w2.cell? ⟨w.heap.size, 14, none⟩ = some (.int .i64 fn) := Rw2.cell 14 rfl; have qw2_15 : w2.cell? ⟨w.heap.size, 15, none⟩ = some (.int .i64 m.a) := Rw2.cell 15 rfl; have qw2_16 : w2.cell? ⟨w.heap.size, 16, none⟩ = some (.int .i64 m.b) := Rw2.cell 16 rfl; have qw2_17 : w2.cell? ⟨w.heap.size, 17, none⟩ = some (.int .i64 m.c) := Rw2.cell 17 rfl; have qw2_18 : w2.cell? ⟨w.heap.size, 18, none⟩ = some (.int .i64 m.d) := Rw2.cell 18 rfl; have qw2_19 : w2.cell? ⟨w.heap.size, 19, none⟩ = some (.int .i64 m.x) := Rw2.cell 19 rfl; have qw2_20 : w2.cell? ⟨w.heap.size, 20, none⟩ = some (.int .i64 m.y) := Rw2.cell 20 rfl; have qw2_21 : w2.cell? ⟨w.heap.size, 21, none⟩ = some (.slice ba bl bc) := Rw2.cell 21 rfl))
      | (go_at_call 73; ((with_reducible refine (Path.sound_calls (.slice pa pl pc) l _ (HL.out.up (by (repeat' (first | (with_reducible first | exact Up.refl _ | assumption | refine Up.alloc ?_ _ | refine Up.drew ?_ | refine Up.drewN ?_ _ | refine Up.setCell ?_ ?_ _ | refine Up.call ?_ (by assumption)) | go_size)))).pv).mono ?_); rw [HSO.out]; rintro E w5 ⟨rfl, hu5⟩; have z5 := hu5.size; have Rw5 : Row w5 w.heap.size #[.int .i64 2, .slice pa pl pc, .int .i64 sp, .int .i64 p0, .int .i64 p1, .int .i64 p2, .int .i64 p3, .slice ca cl cc, .int .i64 wd, .int .i64 cp, .int .i64 jn, .int .i64 mt, .slice da dl dc, .int .i64 ph, .int .i64 fn, .int .i64 m.a, .int .i64 m.b, .int .i64 m.c, .int .i64 m.d, .int .i64 m.x, .int .i64 m.y, .slice ba bl bc] := Row.up (show Row _ w.heap.size #[.int .i64 2, .slice pa pl pc, .int .i64 sp, .int .i64 p0, .int .i64 p1, .int .i64 p2, .int .i64 p3, .slice ca cl cc, .int .i64 wd, .int .i64 cp, .int .i64 jn, .int .i64 mt, .slice da dl dc, .int .i64 ph, .int .i64 fn, .int .i64 m.a, .int .i64 m.b, .int .i64 m.c, .int .i64 m.d, .int .i64 m.x, .int .i64 m.y, .slice ba bl bc] by (repeat' (with_reducible first | assumption | (refine Row.at _ _ ?_; (simp; done)) | refine Row.alloc ?_ _ | refine Row.drew ?_ | refine Row.drewN ?_ _ | refine Row.other ?_ (by first | (simp; done) | (simp; omega) | omega) _ | refine Row.up ?_ (by assumption) | refine Row.chg ?_ (by assumption) (by first | (simp; done) | (simp; omega))))) hu5; have lw5 := Rw5.lt; have qw5_0 : w5.cell? ⟨w.heap.size, 0, none⟩ = some (.int .i64 2) := Rw5.cell 0 rfl; have qw5_1 : w5.cell? ⟨w.heap.size, 1, none⟩ = some (.slice pa pl pc) := Rw5.cell 1 rfl; have qw5_7 : w5.cell? ⟨w.heap.size, 7, none⟩ = some (.slice ca cl cc) := Rw5.cell 7 rfl; have qw5_8 : w5.cell? ⟨w.heap.size, 8, none⟩ = some (.int .i64 wd) := Rw5.cell 8 rfl; have qw5_9 : w5.cell? ⟨w.heap.size, 9, none⟩ = some (.int .i64 cp) := Rw5.cell 9 rfl; have qw5_10 : w5.cell? ⟨w.heap.size, 10, none⟩ = some (.int .i64 jn) := Rw5.cell 10 rfl; have qw5_11 : w5.cell? ⟨w.heap.size, 11, none⟩ = some (.int .i64 mt) := Rw5.cell 11 rfl; have qw5_12 : w5.cell? ⟨w.heap.size, 12, none⟩ = some (.slice da dl dc) := Rw5.cell 12 rfl; have qw5_13 : w5.cell? ⟨w.heap.size, 13, none⟩ = some (.int .i64 ph) := Rw5.cell 13 rfl; have qw5_14 : w5.cell? ⟨w.heap.size, 14, none⟩ = some (.int .i64 fn) := Rw5.cell 14 rfl; have qw5_15 : w5.cell? ⟨w.heap.size, 15, none⟩ = some (.int .i64 m.a) := Rw5.cell 15 rfl; have qw5_16 : w5.cell? ⟨w.heap.size, 16, none⟩ = some (.int .i64 m.b) := Rw5.cell 16 rfl; have qw5_17 : w5.cell? ⟨w.heap.size, 17, none⟩ = some (.int .i64 m.c) := Rw5.cell 17 rfl; have qw5_18 : w5.cell? ⟨w.heap.size, 18, none⟩ = some (.int .i64 m.d) := Rw5.cell 18 rfl; have qw5_19 : w5.cell? ⟨w.heap.size, 19, none⟩ = some (.int .i64 m.x) := Rw5.cell 19 rfl; have qw5_20 : w5.cell? ⟨w.heap.size, 20, none⟩ = some (.int .i64 m.y) := Rw5.cell 20 rfl; have qw5_21 : w5.cell? ⟨w.heap.size, 21, none⟩ = some (.slice ba bl bc) := Rw5.cell 21 rfl))
      | (go_at_call 72; ((with_reducible refine (none_calls wd cp jn mt ph da dl dc _).mono ?_); rw [HNO.out]; rintro E w4 ⟨rfl, hu4⟩)))
    go_ret
    exact ⟨by rw [H.out]; rfl, by (repeat' (first | (with_reducible first | exact Up.refl _ | assumption | refine Up.alloc ?_ _ | refine Up.drew ?_ | refine Up.drewN ?_ _ | refine Up.setCell ?_ ?_ _ | refine Up.call ?_ (by assumption)) | go_size))⟩
  have e2 : (k == 2) = false := by simpa using h6
  by_cases h7 : k = 3
  · subst h7
    have H := Lib.hid (show itemB true true tL tN tP true true 3 fn pl bl = tP by simp only [itemB, h2, h3, h4] <;> simp)
    go_enter Tryz.func41, Tryz.ntmps41
    go_wp2_with (first
      | (go_at_call 69; ((with_reducible refine (color_calls sp p0 p1 p2 p3 _).mono ?_); rw [HC.out]; rintro E w1 ⟨rfl, hu1⟩; have z1 := hu1.size; (try simp at z1); have Rw1 : Row w1 w.heap.size #[.int .i64 3, .slice pa pl pc, .int .i64 sp, .int .i64 p0, .int .i64 p1, .int .i64 p2, .int .i64 p3, .slice ca cl cc, .int .i64 wd, .int .i64 cp, .int .i64 jn, .int .i64 mt, .slice da dl dc, .int .i64 ph, .int .i64 fn, .int .i64 m.a, .int .i64 m.b, .int .i64 m.c, .int .i64 m.d, .int .i64 m.x, .int .i64 m.y, .slice ba bl bc] := Row.up (show Row _ w.heap.size #[.int .i64 3, .slice pa pl pc, .int .i64 sp, .int .i64 p0, .int .i64 p1, .int .i64 p2, .int .i64 p3, .slice ca cl cc, .int .i64 wd, .int .i64 cp, .int .i64 jn, .int .i64 mt, .slice da dl dc, .int .i64 ph, .int .i64 fn, .int .i64 m.a, .int .i64 m.b, .int .i64 m.c, .int .i64 m.d, .int .i64 m.x, .int .i64 m.y, .slice ba bl bc] by (repeat' (with_reducible first | assumption | (refine Row.at _ _ ?_; (simp; done)) | refine Row.alloc ?_ _ | refine Row.drew ?_ | refine Row.drewN ?_ _ | refine Row.other ?_ (by first | (simp; done) | (simp; omega) | omega) _ | refine Row.up ?_ (by assumption) | refine Row.chg ?_ (by assumption) (by first | (simp; done) | (simp; omega))))) hu1; have lw1 := Rw1.lt; have qw1_0 : w1.cell? ⟨w.heap.size, 0, none⟩ = some (.int .i64 3) := Rw1.cell 0 rfl; have qw1_1 : w1.cell? ⟨w.heap.size, 1, none⟩ = some (.slice pa pl pc) := Rw1.cell 1 rfl; have qw1_7 : w1.cell? ⟨w.heap.size, 7, none⟩ = some (.slice ca cl cc) := Rw1.cell 7 rfl; have qw1_8 : w1.cell? ⟨w.heap.size, 8, none⟩ = some (.int .i64 wd) := Rw1.cell 8 rfl; have qw1_9 : w1.cell? ⟨w.heap.size, 9, none⟩ = some (.int .i64 cp) := Rw1.cell 9 rfl; have qw1_10 : w1.cell? ⟨w.heap.size, 10, none⟩ = some (.int .i64 jn) := Rw1.cell 10 rfl; have qw1_11 : w1.cell? ⟨w.heap.size, 11, none⟩ = some (.int .i64 mt) := Rw1.cell 11 rfl; have qw1_12 : w1.cell? ⟨w.heap.size, 12, none⟩ = some (.slice da dl dc) := Rw1.cell 12 rfl; have qw1_13 : w1.cell? ⟨w.heap.size, 13, none⟩ = some (.int .i64 ph) := Rw1.cell 13 rfl; have qw1_14 : w1.cell? ⟨w.heap.size, 14, none⟩ = some (.int .i64 fn) := Rw1.cell 14 rfl; have qw1_15 : w1.cell? ⟨w.heap.size, 15, none⟩ = some (.int .i64 m.a) := Rw1.cell 15 rfl; have qw1_16 : w1.cell? ⟨w.heap.size, 16, none⟩ = some (.int .i64 m.b) := Rw1.cell 16 rfl; have qw1_17 : w1.cell? ⟨w.heap.size, 17, none⟩ = some (.int .i64 m.c) := Rw1.cell 17 rfl; have qw1_18 : w1.cell? ⟨w.heap.size, 18, none⟩ = some (.int .i64 m.d) := Rw1.cell 18 rfl; have qw1_19 : w1.cell? ⟨w.heap.size, 19, none⟩ = some (.int .i64 m.x) := Rw1.cell 19 rfl; have qw1_20 : w1.cell? ⟨w.heap.size, 20, none⟩ = some (.int .i64 m.y) := Rw1.cell 20 rfl; have qw1_21 : w1.cell? ⟨w.heap.size, 21, none⟩ = some (.slice ba bl bc) := Rw1.cell 21 rfl))
      | (go_at_call 70; ((with_reducible refine (clips_calls cs ca cl cc _ (HL.out.up (by (repeat' (first | (with_reducible first | exact Up.refl _ | assumption | refine Up.alloc ?_ _ | refine Up.drew ?_ | refine Up.drewN ?_ _ | refine Up.setCell ?_ ?_ _ | refine Up.call ?_ (by assumption)) | go_size)))).sl (HL.out.up (by (repeat' (first | (with_reducible first | exact Up.refl _ | assumption | refine Up.alloc ?_ _ | refine Up.drew ?_ | refine Up.drewN ?_ _ | refine Up.setCell ?_ ?_ _ | refine Up.call ?_ (by assumption)) | go_size)))).sv).mono ?_); rw [HK.out]; rintro E w2 ⟨rfl, hu2⟩; have z2 := hu2.size; have Rw2 : Row w2 w.heap.size #[.int .i64 3, .slice pa pl pc, .int .i64 sp, .int .i64 p0, .int .i64 p1, .int .i64 p2, .int .i64 p3, .slice ca cl cc, .int .i64 wd, .int .i64 cp, .int .i64 jn, .int .i64 mt, .slice da dl dc, .int .i64 ph, .int .i64 fn, .int .i64 m.a, .int .i64 m.b, .int .i64 m.c, .int .i64 m.d, .int .i64 m.x, .int .i64 m.y, .slice ba bl bc] := Row.up (show Row _ w.heap.size #[.int .i64 3, .slice pa pl pc, .int .i64 sp, .int .i64 p0, .int .i64 p1, .int .i64 p2, .int .i64 p3, .slice ca cl cc, .int .i64 wd, .int .i64 cp, .int .i64 jn, .int .i64 mt, .slice da dl dc, .int .i64 ph, .int .i64 fn, .int .i64 m.a, .int .i64 m.b, .int .i64 m.c, .int .i64 m.d, .int .i64 m.x, .int .i64 m.y, .slice ba bl bc] by (repeat' (with_reducible first | assumption | (refine Row.at _ _ ?_; (simp; done)) | refine Row.alloc ?_ _ | refine Row.drew ?_ | refine Row.drewN ?_ _ | refine Row.other ?_ (by first | (simp; done) | (simp; omega) | omega) _ | refine Row.up ?_ (by assumption) | refine Row.chg ?_ (by assumption) (by first | (simp; done) | (simp; omega))))) hu2; have lw2 := Rw2.lt; have qw2_0 : w2.cell? ⟨w.heap.size, 0, none⟩ = some (.int .i64 3) := Rw2.cell 0 rfl; have qw2_1 : w2.cell? ⟨w.heap.size, 1, none⟩ = some (.slice pa pl pc) := Rw2.cell 1 rfl; have qw2_7 : w2.cell? ⟨w.heap.size, 7, none⟩ = some (.slice ca cl cc) := Rw2.cell 7 rfl; have qw2_8 : w2.cell? ⟨w.heap.size, 8, none⟩ = some (.int .i64 wd) := Rw2.cell 8 rfl; have qw2_9 : w2.cell? ⟨w.heap.size, 9, none⟩ = some (.int .i64 cp) := Rw2.cell 9 rfl; have qw2_10 : w2.cell? ⟨w.heap.size, 10, none⟩ = some (.int .i64 jn) := Rw2.cell 10 rfl; have qw2_11 : w2.cell? ⟨w.heap.size, 11, none⟩ = some (.int .i64 mt) := Rw2.cell 11 rfl; have qw2_12 : w2.cell? ⟨w.heap.size, 12, none⟩ = some (.slice da dl dc) := Rw2.cell 12 rfl; have qw2_13 : w2.cell? ⟨w.heap.size, 13, none⟩ = some (.int .i64 ph) := Rw2.cell 13 rfl; have qw2_14 : w2.cell? ⟨w.heap.size, 14, none⟩ = some (.int .i64 fn) := Rw2.cell 14 rfl; have qw2_15 : w2.cell? ⟨w.heap.size, 15, none⟩ = some (.int .i64 m.a) := Rw2.cell 15 rfl; have qw2_16 : w2.cell? ⟨w.heap.size, 16, none⟩ = some (.int .i64 m.b) := Rw2.cell 16 rfl; have qw2_17 : w2.cell? ⟨w.heap.size, 17, none⟩ = some (.int .i64 m.c) := Rw2.cell 17 rfl; have qw2_18 : w2.cell? ⟨w.heap.size, 18, none⟩ = some (.int .i64 m.d) := Rw2.cell 18 rfl; have qw2_19 : w2.cell? ⟨w.heap.size, 19, none⟩ = some (.int .i64 m.x) := Rw2.cell 19 rfl; have qw2_20 : w2.cell? ⟨w.heap.size, 20, none⟩ = some (.int .i64 m.y) := Rw2.cell 20 rfl; have qw2_21 : w2.cell? ⟨w.heap.size, 21, none⟩ = some (.slice ba bl bc) := Rw2.cell 21 rfl))
      | (go_at_call 73; ((with_reducible refine (Path.sound_calls (.slice pa pl pc) l _ (HL.out.up (by (repeat' (first | (with_reducible first | exact Up.refl _ | assumption | refine Up.alloc ?_ _ | refine Up.drew ?_ | refine Up.drewN ?_ _ | refine Up.setCell ?_ ?_ _ | refine Up.call ?_ (by assumption)) | go_size)))).pv).mono ?_); rw [HSO.out]; rintro E w5 ⟨rfl, hu5⟩; have z5 := hu5.size; have Rw5 : Row w5 w.heap.size #[.int .i64 3, .slice pa pl pc, .int .i64 sp, .int .i64 p0, .int .i64 p1, .int .i64 p2, .int .i64 p3, .slice ca cl cc, .int .i64 wd, .int .i64 cp, .int .i64 jn, .int .i64 mt, .slice da dl dc, .int .i64 ph, .int .i64 fn, .int .i64 m.a, .int .i64 m.b, .int .i64 m.c, .int .i64 m.d, .int .i64 m.x, .int .i64 m.y, .slice ba bl bc] := Row.up (show Row _ w.heap.size #[.int .i64 3, .slice pa pl pc, .int .i64 sp, .int .i64 p0, .int .i64 p1, .int .i64 p2, .int .i64 p3, .slice ca cl cc, .int .i64 wd, .int .i64 cp, .int .i64 jn, .int .i64 mt, .slice da dl dc, .int .i64 ph, .int .i64 fn, .int .i64 m.a, .int .i64 m.b, .int .i64 m.c, .int .i64 m.d, .int .i64 m.x, .int .i64 m.y, .slice ba bl bc] by (repeat' (with_reducible first | assumption | (refine Row.at _ _ ?_; (simp; done)) | refine Row.alloc ?_ _ | refine Row.drew ?_ | refine Row.drewN ?_ _ | refine Row.other ?_ (by first | (simp; done) | (simp; omega) | omega) _ | refine Row.up ?_ (by assumption) | refine Row.chg ?_ (by assumption) (by first | (simp; done) | (simp; omega))))) hu5; have lw5 := Rw5.lt; have qw5_0 : w5.cell? ⟨w.heap.size, 0, none⟩ = some (.int .i64 3) := Rw5.cell 0 rfl; have qw5_1 : w5.cell? ⟨w.heap.size, 1, none⟩ = some (.slice pa pl pc) := Rw5.cell 1 rfl; have qw5_7 : w5.cell? ⟨w.heap.size, 7, none⟩ = some (.slice ca cl cc) := Rw5.cell 7 rfl; have qw5_8 : w5.cell? ⟨w.heap.size, 8, none⟩ = some (.int .i64 wd) := Rw5.cell 8 rfl; have qw5_9 : w5.cell? ⟨w.heap.size, 9, none⟩ = some (.int .i64 cp) := Rw5.cell 9 rfl; have qw5_10 : w5.cell? ⟨w.heap.size, 10, none⟩ = some (.int .i64 jn) := Rw5.cell 10 rfl; have qw5_11 : w5.cell? ⟨w.heap.size, 11, none⟩ = some (.int .i64 mt) := Rw5.cell 11 rfl; have qw5_12 : w5.cell? ⟨w.heap.size, 12, none⟩ = some (.slice da dl dc) := Rw5.cell 12 rfl; have qw5_13 : w5.cell? ⟨w.heap.size, 13, none⟩ = some (.int .i64 ph) := Rw5.cell 13 rfl; have qw5_14 : w5.cell? ⟨w.heap.size, 14, none⟩ = some (.int .i64 fn) := Rw5.cell 14 rfl; have qw5_15 : w5.cell? ⟨w.heap.size, 15, none⟩ = some (.int .i64 m.a) := Rw5.cell 15 rfl; have qw5_16 : w5.cell? ⟨w.heap.size, 16, none⟩ = some (.int .i64 m.b) := Rw5.cell 16 rfl; have qw5_17 : w5.cell? ⟨w.heap.size, 17, none⟩ = some (.int .i64 m.c) := Rw5.cell 17 rfl; have qw5_18 : w5.cell? ⟨w.heap.size, 18, none⟩ = some (.int .i64 m.d) := Rw5.cell 18 rfl; have qw5_19 : w5.cell? ⟨w.heap.size, 19, none⟩ = some (.int .i64 m.x) := Rw5.cell 19 rfl; have qw5_20 : w5.cell? ⟨w.heap.size, 20, none⟩ = some (.int .i64 m.y) := Rw5.cell 20 rfl; have qw5_21 : w5.cell? ⟨w.heap.size, 21, none⟩ = some (.slice ba bl bc) := Rw5.cell 21 rfl))
      | (go_at_call 74; ((with_reducible refine (pen_calls wd cp jn mt ph da dl dc ds _ HL.out.dn (HL.out.up (by (repeat' (first | (with_reducible first | exact Up.refl _ | assumption | refine Up.alloc ?_ _ | refine Up.drew ?_ | refine Up.drewN ?_ _ | refine Up.setCell ?_ ?_ _ | refine Up.call ?_ (by assumption)) | go_size)))).dv).mono ?_); rw [HPN.out]; rintro E w6 ⟨rfl, hu6⟩)))
    go_ret
    exact ⟨by rw [H.out]; rfl, by (repeat' (first | (with_reducible first | exact Up.refl _ | assumption | refine Up.alloc ?_ _ | refine Up.drew ?_ | refine Up.drewN ?_ _ | refine Up.setCell ?_ ?_ _ | refine Up.call ?_ (by assumption)) | go_size))⟩
  have e3 : (k == 3) = false := by simpa using h7
  have H := Lib.hid (show itemB true true tL tN tP true true k fn pl bl = false by simp only [itemB, hk, h5, h6, h7, h2, h3, h4] <;> simp)
  go_enter Tryz.func41, Tryz.ntmps41
  go_wp2_with (first
    | (go_at_call 69; ((with_reducible refine (color_calls sp p0 p1 p2 p3 _).mono ?_); rw [HC.out]; rintro E w1 ⟨rfl, hu1⟩; have z1 := hu1.size; (try simp at z1); have Rw1 : Row w1 w.heap.size #[.int .i64 k, .slice pa pl pc, .int .i64 sp, .int .i64 p0, .int .i64 p1, .int .i64 p2, .int .i64 p3, .slice ca cl cc, .int .i64 wd, .int .i64 cp, .int .i64 jn, .int .i64 mt, .slice da dl dc, .int .i64 ph, .int .i64 fn, .int .i64 m.a, .int .i64 m.b, .int .i64 m.c, .int .i64 m.d, .int .i64 m.x, .int .i64 m.y, .slice ba bl bc] := Row.up (show Row _ w.heap.size #[.int .i64 k, .slice pa pl pc, .int .i64 sp, .int .i64 p0, .int .i64 p1, .int .i64 p2, .int .i64 p3, .slice ca cl cc, .int .i64 wd, .int .i64 cp, .int .i64 jn, .int .i64 mt, .slice da dl dc, .int .i64 ph, .int .i64 fn, .int .i64 m.a, .int .i64 m.b, .int .i64 m.c, .int .i64 m.d, .int .i64 m.x, .int .i64 m.y, .slice ba bl bc] by (repeat' (with_reducible first | assumption | (refine Row.at _ _ ?_; (simp; done)) | refine Row.alloc ?_ _ | refine Row.drew ?_ | refine Row.drewN ?_ _ | refine Row.other ?_ (by first | (simp; done) | (simp; omega) | omega) _ | refine Row.up ?_ (by assumption) | refine Row.chg ?_ (by assumption) (by first | (simp; done) | (simp; omega))))) hu1; have lw1 := Rw1.lt; have qw1_0 : w1.cell? ⟨w.heap.size, 0, none⟩ = some (.int .i64 k) := Rw1.cell 0 rfl; have qw1_1 : w1.cell? ⟨w.heap.size, 1, none⟩ = some (.slice pa pl pc) := Rw1.cell 1 rfl; have qw1_7 : w1.cell? ⟨w.heap.size, 7, none⟩ = some (.slice ca cl cc) := Rw1.cell 7 rfl; have qw1_8 : w1.cell? ⟨w.heap.size, 8, none⟩ = some (.int .i64 wd) := Rw1.cell 8 rfl; have qw1_9 : w1.cell? ⟨w.heap.size, 9, none⟩ = some (.int .i64 cp) := Rw1.cell 9 rfl; have qw1_10 : w1.cell? ⟨w.heap.size, 10, none⟩ = some (.int .i64 jn) := Rw1.cell 10 rfl; have qw1_11 : w1.cell? ⟨w.heap.size, 11, none⟩ = some (.int .i64 mt) := Rw1.cell 11 rfl; have qw1_12 : w1.cell? ⟨w.heap.size, 12, none⟩ = some (.slice da dl dc) := Rw1.cell 12 rfl; have qw1_13 : w1.cell? ⟨w.heap.size, 13, none⟩ = some (.int .i64 ph) := Rw1.cell 13 rfl; have qw1_14 : w1.cell? ⟨w.heap.size, 14, none⟩ = some (.int .i64 fn) := Rw1.cell 14 rfl; have qw1_15 : w1.cell? ⟨w.heap.size, 15, none⟩ = some (.int .i64 m.a) := Rw1.cell 15 rfl; have qw1_16 : w1.cell? ⟨w.heap.size, 16, none⟩ = some (.int .i64 m.b) := Rw1.cell 16 rfl; have qw1_17 : w1.cell? ⟨w.heap.size, 17, none⟩ = some (.int .i64 m.c) := Rw1.cell 17 rfl; have qw1_18 : w1.cell? ⟨w.heap.size, 18, none⟩ = some (.int .i64 m.d) := Rw1.cell 18 rfl; have qw1_19 : w1.cell? ⟨w.heap.size, 19, none⟩ = some (.int .i64 m.x) := Rw1.cell 19 rfl; have qw1_20 : w1.cell? ⟨w.heap.size, 20, none⟩ = some (.int .i64 m.y) := Rw1.cell 20 rfl; have qw1_21 : w1.cell? ⟨w.heap.size, 21, none⟩ = some (.slice ba bl bc) := Rw1.cell 21 rfl))
    | (go_at_call 70; ((with_reducible refine (clips_calls cs ca cl cc _ (HL.out.up (by (repeat' (first | (with_reducible first | exact Up.refl _ | assumption | refine Up.alloc ?_ _ | refine Up.drew ?_ | refine Up.drewN ?_ _ | refine Up.setCell ?_ ?_ _ | refine Up.call ?_ (by assumption)) | go_size)))).sl (HL.out.up (by (repeat' (first | (with_reducible first | exact Up.refl _ | assumption | refine Up.alloc ?_ _ | refine Up.drew ?_ | refine Up.drewN ?_ _ | refine Up.setCell ?_ ?_ _ | refine Up.call ?_ (by assumption)) | go_size)))).sv).mono ?_); rw [HK.out]; rintro E w2 ⟨rfl, hu2⟩; have z2 := hu2.size; have Rw2 : Row w2 w.heap.size #[.int .i64 k, .slice pa pl pc, .int .i64 sp, .int .i64 p0, .int .i64 p1, .int .i64 p2, .int .i64 p3, .slice ca cl cc, .int .i64 wd, .int .i64 cp, .int .i64 jn, .int .i64 mt, .slice da dl dc, .int .i64 ph, .int .i64 fn, .int .i64 m.a, .int .i64 m.b, .int .i64 m.c, .int .i64 m.d, .int .i64 m.x, .int .i64 m.y, .slice ba bl bc] := Row.up (show Row _ w.heap.size #[.int .i64 k, .slice pa pl pc, .int .i64 sp, .int .i64 p0, .int .i64 p1, .int .i64 p2, .int .i64 p3, .slice ca cl cc, .int .i64 wd, .int .i64 cp, .int .i64 jn, .int .i64 mt, .slice da dl dc, .int .i64 ph, .int .i64 fn, .int .i64 m.a, .int .i64 m.b, .int .i64 m.c, .int .i64 m.d, .int .i64 m.x, .int .i64 m.y, .slice ba bl bc] by (repeat' (with_reducible first | assumption | (refine Row.at _ _ ?_; (simp; done)) | refine Row.alloc ?_ _ | refine Row.drew ?_ | refine Row.drewN ?_ _ | refine Row.other ?_ (by first | (simp; done) | (simp; omega) | omega) _ | refine Row.up ?_ (by assumption) | refine Row.chg ?_ (by assumption) (by first | (simp; done) | (simp; omega))))) hu2; have lw2 := Rw2.lt; have qw2_0 : w2.cell? ⟨w.heap.size, 0, none⟩ = some (.int .i64 k) := Rw2.cell 0 rfl; have qw2_1 : w2.cell? ⟨w.heap.size, 1, none⟩ = some (.slice pa pl pc) := Rw2.cell 1 rfl; have qw2_7 : w2.cell? ⟨w.heap.size, 7, none⟩ = some (.slice ca cl cc) := Rw2.cell 7 rfl; have qw2_8 : w2.cell? ⟨w.heap.size, 8, none⟩ = some (.int .i64 wd) := Rw2.cell 8 rfl; have qw2_9 : w2.cell? ⟨w.heap.size, 9, none⟩ = some (.int .i64 cp) := Rw2.cell 9 rfl; have qw2_10 : w2.cell? ⟨w.heap.size, 10, none⟩ = some (.int .i64 jn) := Rw2.cell 10 rfl; have qw2_11 : w2.cell? ⟨w.heap.size, 11, none⟩ = some (.int .i64 mt) := Rw2.cell 11 rfl; have qw2_12 : w2.cell? ⟨w.heap.size, 12, none⟩ = some (.slice da dl dc) := Rw2.cell 12 rfl; have qw2_13 : w2.cell? ⟨w.heap.size, 13, none⟩ = some (.int .i64 ph) := Rw2.cell 13 rfl; have qw2_14 : w2.cell? ⟨w.heap.size, 14, none⟩ = some (.int .i64 fn) := Rw2.cell 14 rfl; have qw2_15 : w2.cell? ⟨w.heap.size, 15, none⟩ = some (.int .i64 m.a) := Rw2.cell 15 rfl; have qw2_16 : w2.cell? ⟨w.heap.size, 16, none⟩ = some (.int .i64 m.b) := Rw2.cell 16 rfl; have qw2_17 : w2.cell? ⟨w.heap.size, 17, none⟩ = some (.int .i64 m.c) := Rw2.cell 17 rfl; have qw2_18 : w2.cell? ⟨w.heap.size, 18, none⟩ = some (.int .i64 m.d) := Rw2.cell 18 rfl; have qw2_19 : w2.cell? ⟨w.heap.size, 19, none⟩ = some (.int .i64 m.x) := Rw2.cell 19 rfl; have qw2_20 : w2.cell? ⟨w.heap.size, 20, none⟩ = some (.int .i64 m.y) := Rw2.cell 20 rfl; have qw2_21 : w2.cell? ⟨w.heap.size, 21, none⟩ = some (.slice ba bl bc) := Rw2.cell 21 rfl))
    | (go_at_call 73; ((with_reducible refine (Path.sound_calls (.slice pa pl pc) l _ (HL.out.up (by (repeat' (first | (with_reducible first | exact Up.refl _ | assumption | refine Up.alloc ?_ _ | refine Up.drew ?_ | refine Up.drewN ?_ _ | refine Up.setCell ?_ ?_ _ | refine Up.call ?_ (by assumption)) | go_size)))).pv).mono ?_); rw [HSO.out]; rintro E w5 ⟨rfl, hu5⟩; have z5 := hu5.size; have Rw5 : Row w5 w.heap.size #[.int .i64 k, .slice pa pl pc, .int .i64 sp, .int .i64 p0, .int .i64 p1, .int .i64 p2, .int .i64 p3, .slice ca cl cc, .int .i64 wd, .int .i64 cp, .int .i64 jn, .int .i64 mt, .slice da dl dc, .int .i64 ph, .int .i64 fn, .int .i64 m.a, .int .i64 m.b, .int .i64 m.c, .int .i64 m.d, .int .i64 m.x, .int .i64 m.y, .slice ba bl bc] := Row.up (show Row _ w.heap.size #[.int .i64 k, .slice pa pl pc, .int .i64 sp, .int .i64 p0, .int .i64 p1, .int .i64 p2, .int .i64 p3, .slice ca cl cc, .int .i64 wd, .int .i64 cp, .int .i64 jn, .int .i64 mt, .slice da dl dc, .int .i64 ph, .int .i64 fn, .int .i64 m.a, .int .i64 m.b, .int .i64 m.c, .int .i64 m.d, .int .i64 m.x, .int .i64 m.y, .slice ba bl bc] by (repeat' (with_reducible first | assumption | (refine Row.at _ _ ?_; (simp; done)) | refine Row.alloc ?_ _ | refine Row.drew ?_ | refine Row.drewN ?_ _ | refine Row.other ?_ (by first | (simp; done) | (simp; omega) | omega) _ | refine Row.up ?_ (by assumption) | refine Row.chg ?_ (by assumption) (by first | (simp; done) | (simp; omega))))) hu5; have lw5 := Rw5.lt; have qw5_0 : w5.cell? ⟨w.heap.size, 0, none⟩ = some (.int .i64 k) := Rw5.cell 0 rfl; have qw5_1 : w5.cell? ⟨w.heap.size, 1, none⟩ = some (.slice pa pl pc) := Rw5.cell 1 rfl; have qw5_7 : w5.cell? ⟨w.heap.size, 7, none⟩ = some (.slice ca cl cc) := Rw5.cell 7 rfl; have qw5_8 : w5.cell? ⟨w.heap.size, 8, none⟩ = some (.int .i64 wd) := Rw5.cell 8 rfl; have qw5_9 : w5.cell? ⟨w.heap.size, 9, none⟩ = some (.int .i64 cp) := Rw5.cell 9 rfl; have qw5_10 : w5.cell? ⟨w.heap.size, 10, none⟩ = some (.int .i64 jn) := Rw5.cell 10 rfl; have qw5_11 : w5.cell? ⟨w.heap.size, 11, none⟩ = some (.int .i64 mt) := Rw5.cell 11 rfl; have qw5_12 : w5.cell? ⟨w.heap.size, 12, none⟩ = some (.slice da dl dc) := Rw5.cell 12 rfl; have qw5_13 : w5.cell? ⟨w.heap.size, 13, none⟩ = some (.int .i64 ph) := Rw5.cell 13 rfl; have qw5_14 : w5.cell? ⟨w.heap.size, 14, none⟩ = some (.int .i64 fn) := Rw5.cell 14 rfl; have qw5_15 : w5.cell? ⟨w.heap.size, 15, none⟩ = some (.int .i64 m.a) := Rw5.cell 15 rfl; have qw5_16 : w5.cell? ⟨w.heap.size, 16, none⟩ = some (.int .i64 m.b) := Rw5.cell 16 rfl; have qw5_17 : w5.cell? ⟨w.heap.size, 17, none⟩ = some (.int .i64 m.c) := Rw5.cell 17 rfl; have qw5_18 : w5.cell? ⟨w.heap.size, 18, none⟩ = some (.int .i64 m.d) := Rw5.cell 18 rfl; have qw5_19 : w5.cell? ⟨w.heap.size, 19, none⟩ = some (.int .i64 m.x) := Rw5.cell 19 rfl; have qw5_20 : w5.cell? ⟨w.heap.size, 20, none⟩ = some (.int .i64 m.y) := Rw5.cell 20 rfl; have qw5_21 : w5.cell? ⟨w.heap.size, 21, none⟩ = some (.slice ba bl bc) := Rw5.cell 21 rfl)))
  go_ret
  exact ⟨by rw [H.out]; rfl, by (repeat' (first | (with_reducible first | exact Up.refl _ | assumption | refine Up.alloc ?_ _ | refine Up.drew ?_ | refine Up.drewN ?_ _ | refine Up.setCell ?_ ?_ _ | refine Up.call ?_ (by assumption)) | go_size))⟩

end Go.Proofs.YtpellcdggaeppaaGreatDoor.Pt
end

section
namespace Go.Proofs.YtpellcdggaeppaaGreatDoor.Pt
open Go.ChangeShapes Go.WideShapes Go.ChangeAt Go.RowKit
open Go.Proofs.YtpellcdggaeppaaGreatDoor.FixM (fits)
open Go.Proofs.YtpellcdggaeppaaGreatDoor.PathM (Seg sound)
open Go.Proofs.YtpellcdggaeppaaGreatDoor.MatM (M6)
set_option linter.unusedVariables false
set_option linter.unusedSimpArgs false

def pageR (W H : Int) (l : List Item) : Bool := sideR W && (sideR H && (decide (l.length ≤ 4096) && l.all itemR))
theorem itemR_eq {w : World} (k : Int) (pa : Option Addr) (pl pc : Nat) (sp p0 p1 p2 p3 : Int) (ca : Option Addr) (cl cc : Nat) (wd cp jn mt : Int) (da : Option Addr) (dl dc : Nat) (ph fn : Int) (m : M6) (ba : Option Addr) (bl bc : Nat) (l : List Seg) (cs : List Clip) (ds bs : List Int) (h : Lists w pa pl pc ca cl cc da dl dc ba bl bc l cs ds bs) : itemR ⟨k, .slice pa pl pc, l, sp, p0, p1, p2, p3, .slice ca cl cc, cs, wd, cp, jn, mt, .slice da dl dc, ds, ph, fn, m, .slice ba bl bc, bs⟩ = (itemB (colorR sp p0 p1 p2 p3) (clipsR cs) (lettersR fn m bl) (noneR wd cp jn mt dl ph) (penR wd cp jn mt ds ph) (sound l) (m0 m) k fn pl bl) := by
  unfold itemR
  simp only [h.pn, h.dn, h.bn]
set_option maxRecDepth 8000 in
set_option maxHeartbeats 2000000 in
theorem sound1_calls (k : Int) (pa : Option Addr) (pl pc : Nat) (sp p0 p1 p2 p3 : Int) (ca : Option Addr) (cl cc : Nat) (wd cp jn mt : Int) (da : Option Addr) (dl dc : Nat) (ph fn : Int) (m : M6) (ba : Option Addr) (bl bc : Nat) (l : List Seg) (cs : List Clip) (ds bs : List Int) (r : Bool) (w : World) (hL : Lists w pa pl pc ca cl cc da dl dc ba bl bc l cs ds bs) (hT : Font.Tab w) (hr : (itemB (colorR sp p0 p1 p2 p3) (clipsR cs) (lettersR fn m bl) (noneR wd cp jn mt dl ph) (penR wd cp jn mt ds ph) (sound l) (m0 m) k fn pl bl) = r) :
    Calls Tryz.prog 40 #[.agg #[.int .i64 k, .slice pa pl pc, .int .i64 sp, .int .i64 p0, .int .i64 p1, .int .i64 p2, .int .i64 p3, .slice ca cl cc, .int .i64 wd, .int .i64 cp, .int .i64 jn, .int .i64 mt, .slice da dl dc, .int .i64 ph, .int .i64 fn, .int .i64 m.a, .int .i64 m.b, .int .i64 m.c, .int .i64 m.d, .int .i64 m.x, .int .i64 m.y, .slice ba bl bc]] w fun E w' => E = .returned (.bool (!r)) ∧ Up w w' := by
  have HL := Lib.hid hL
  have HT := Lib.hid hT
  have HR := Lib.hid hr
  clear hL hT hr
  go_enter Tryz.func40, Tryz.ntmps40
  go_wp2_with (first
    | (refine wpList_load_Row rfl 50 (.tmp 1) rfl (w.heap.size) rfl #[.int .i64 k, .slice pa pl pc, .int .i64 sp, .int .i64 p0, .int .i64 p1, .int .i64 p2, .int .i64 p3, .slice ca cl cc, .int .i64 wd, .int .i64 cp, .int .i64 jn, .int .i64 mt, .slice da dl dc, .int .i64 ph, .int .i64 fn, .int .i64 m.a, .int .i64 m.b, .int .i64 m.c, .int .i64 m.d, .int .i64 m.x, .int .i64 m.y, .slice ba bl bc] _ (by (repeat' (with_reducible first | assumption | (refine Row.at _ _ ?_; (simp; done)) | refine Row.alloc ?_ _ | refine Row.drew ?_ | refine Row.drewN ?_ _ | refine Row.other ?_ (by first | (simp; done) | (simp; omega) | omega) _ | refine Row.up ?_ (by assumption) | refine Row.chg ?_ (by assumption) (by first | (simp; done) | (simp; omega))))) Tryz.underlying50 rfl infoItem rfl ?_)
    | (go_at_call 41; ((with_reducible refine (item_calls k pa pl pc sp p0 p1 p2 p3 ca cl cc wd cp jn mt da dl dc ph fn m ba bl bc l cs ds bs _ _ _ _ _ _ _ _ (HL.out.up (by (repeat' (first | (with_reducible first | exact Up.refl _ | assumption | refine Up.alloc ?_ _ | refine Up.drew ?_ | refine Up.drewN ?_ _ | refine Up.setCell ?_ ?_ _ | refine Up.call ?_ (by assumption)) | go_size)))) (HT.out.up (by (repeat' (first | (with_reducible first | exact Up.refl _ | assumption | refine Up.alloc ?_ _ | refine Up.drew ?_ | refine Up.drewN ?_ _ | refine Up.setCell ?_ ?_ _ | refine Up.call ?_ (by assumption)) | go_size)))) rfl rfl rfl rfl rfl rfl rfl).mono ?_); rw [HR.out]; rintro E w1 ⟨rfl, hu1⟩)))
  go_ret
  exact ⟨rfl, by (repeat' (first | (with_reducible first | exact Up.refl _ | assumption | refine Up.alloc ?_ _ | refine Up.drew ?_ | refine Up.drewN ?_ _ | refine Up.setCell ?_ ?_ _ | refine Up.call ?_ (by assumption)) | go_size))⟩
set_option maxRecDepth 8000 in
set_option maxHeartbeats 4000000 in
theorem index_items (its : List Item) (a : Option Addr) (n c : Nat) (w : World) (h : Sl 22 Item.cells w a n c its) (hs : ∀ i ∈ its, i.is w) (hT : Font.Tab w) (hl : n ≤ 5000) :
    Calls Tryz.prog 68 #[.slice a n c, .func (.func 40) #[] #[]] w fun e w' => e = .returned (.int .i64 (idxG (fun i => !itemR i) its)) ∧ Up w w' := by
  obtain ⟨h1, h2, h3, h4, h5⟩ := h
  have HN := Lib.hid h3
  have HC := Lib.hid h5
  have HS := Lib.hid hs
  have HT := Lib.hid hT
  clear h3 h5 hs h4 hT
  go_enter Tryz.func68, Tryz.ntmps68
  go_wp2
  go_loopw [8] (fun i wr => ∃ j : Nat, j ≤ n ∧ i = .int .i64 j ∧ Hid ((its.take j).any (fun i => !itemR i) = false) ∧ Up w wr) (fun i _ => n - (intOf i).toNat)
  case atStart => exact ⟨0, Nat.zero_le _, rfl, Lib.hid (by simp), Up.refl _⟩
  case round =>
    obtain ⟨j, hk, rfl, HNO, hup⟩ := hrel
    by_cases hlt : j < n
    · obtain ⟨it, hx⟩ : ∃ x, its[j]? = some x := ⟨_, List.getElem?_eq_getElem (by have := HN.out; omega)⟩
      obtain ⟨b, o, rfl, hb, hc⟩ := HC.out (by omega)
      have his := HS.out _ (List.mem_of_getElem? hx)
      have hcj := fun q u hq => hc j it q u hx hq
      obtain ⟨k, pv, l, sp, p0, p1, p2, p3, cv, cs, wd, cp, jn, mt, dv, ds, ph, fn, m, bv, bs⟩ := it
      obtain ⟨pa, pl, pc, ca, cl, cc, da, dl, dc, ba, bl, bc, e1, e2, e3, e4, hLs⟩ := item_lists his
      simp only at e1 e2 e3 e4
      subst e1 e2 e3 e4
      have HRG := Lib.hid (show w.rangeAt b (o + j * 22) #[.int .i64 k, .slice pa pl pc, .int .i64 sp, .int .i64 p0, .int .i64 p1, .int .i64 p2, .int .i64 p3, .slice ca cl cc, .int .i64 wd, .int .i64 cp, .int .i64 jn, .int .i64 mt, .slice da dl dc, .int .i64 ph, .int .i64 fn, .int .i64 m.a, .int .i64 m.b, .int .i64 m.c, .int .i64 m.d, .int .i64 m.x, .int .i64 m.y, .slice ba bl bc].toList from fun q u hq => hcj q u hq)
      have HLS := Lib.hid hLs
      have HX := Lib.hid hx
      have hz := hup.size
      have hcast : decide ((j : Int) < (n : Int)) = true := decide_eq_true (by omega)
      clear hc hcj hx his hLs
      obtain ⟨r, hr⟩ : ∃ r, itemR ⟨k, .slice pa pl pc, l, sp, p0, p1, p2, p3, .slice ca cl cc, cs, wd, cp, jn, mt, .slice da dl dc, ds, ph, fn, m, .slice ba bl bc, bs⟩ = r := ⟨_, rfl⟩
      have HR := Lib.hid ((itemR_eq k pa pl pc sp p0 p1 p2 p3 ca cl cc wd cp jn mt da dl dc ph fn m ba bl bc l cs ds bs HLS.out).symm.trans hr)
      have HT2 := Lib.hid (show (!itemR ⟨k, .slice pa pl pc, l, sp, p0, p1, p2, p3, .slice ca cl cc, cs, wd, cp, jn, mt, .slice da dl dc, ds, ph, fn, m, .slice ba bl bc, bs⟩) = !r by rw [hr])
      clear hr
      cases r
      · have HE := Lib.hid (idxG_hit HX.out HNO.out HT2.out)
        go_wp2_with (first
          | ((refine wpList_load_mid rfl 50 (.tmp 14) rfl b (o + j * 22) (by first | rfl | simp) #[.int .i64 k, .slice pa pl pc, .int .i64 sp, .int .i64 p0, .int .i64 p1, .int .i64 p2, .int .i64 p3, .slice ca cl cc, .int .i64 wd, .int .i64 cp, .int .i64 jn, .int .i64 mt, .slice da dl dc, .int .i64 ph, .int .i64 fn, .int .i64 m.a, .int .i64 m.b, .int .i64 m.c, .int .i64 m.d, .int .i64 m.x, .int .i64 m.y, .slice ba bl bc].toList _ (fun q u hq => ((show Up w _ by (repeat' (first | (with_reducible first | exact Up.refl _ | assumption | refine Up.alloc ?_ _ | refine Up.drew ?_ | refine Up.drewN ?_ _ | refine Up.setCell ?_ ?_ _ | refine Up.call ?_ (by assumption)) | go_size))).cells.1 b (o + j * 22 + q) hb).trans (HRG.out q u hq)) Tryz.underlying50 rfl infoItem ?_); (try simp only [Array.toArray_toList]))
          | (go_at_call 40; ((with_reducible refine (sound1_calls k pa pl pc sp p0 p1 p2 p3 ca cl cc wd cp jn mt da dl dc ph fn m ba bl bc l cs ds bs _ _ (HLS.out.up (by (repeat' (first | (with_reducible first | exact Up.refl _ | assumption | refine Up.alloc ?_ _ | refine Up.drew ?_ | refine Up.drewN ?_ _ | refine Up.setCell ?_ ?_ _ | refine Up.call ?_ (by assumption)) | go_size)))) (HT.out.up (by (repeat' (first | (with_reducible first | exact Up.refl _ | assumption | refine Up.alloc ?_ _ | refine Up.drew ?_ | refine Up.drewN ?_ _ | refine Up.setCell ?_ ?_ _ | refine Up.call ?_ (by assumption)) | go_size)))) HR.out).mono ?_); rintro E w1 ⟨rfl, hu1⟩)))
        go_ret
        exact ⟨by rw [HE.out]; rfl, by (repeat' (first | (with_reducible first | exact Up.refl _ | assumption | refine Up.alloc ?_ _ | refine Up.drew ?_ | refine Up.drewN ?_ _ | refine Up.setCell ?_ ?_ _ | refine Up.call ?_ (by assumption)) | go_size))⟩
      · go_wp2_with (first
          | ((refine wpList_load_mid rfl 50 (.tmp 14) rfl b (o + j * 22) (by first | rfl | simp) #[.int .i64 k, .slice pa pl pc, .int .i64 sp, .int .i64 p0, .int .i64 p1, .int .i64 p2, .int .i64 p3, .slice ca cl cc, .int .i64 wd, .int .i64 cp, .int .i64 jn, .int .i64 mt, .slice da dl dc, .int .i64 ph, .int .i64 fn, .int .i64 m.a, .int .i64 m.b, .int .i64 m.c, .int .i64 m.d, .int .i64 m.x, .int .i64 m.y, .slice ba bl bc].toList _ (fun q u hq => ((show Up w _ by (repeat' (first | (with_reducible first | exact Up.refl _ | assumption | refine Up.alloc ?_ _ | refine Up.drew ?_ | refine Up.drewN ?_ _ | refine Up.setCell ?_ ?_ _ | refine Up.call ?_ (by assumption)) | go_size))).cells.1 b (o + j * 22 + q) hb).trans (HRG.out q u hq)) Tryz.underlying50 rfl infoItem ?_); (try simp only [Array.toArray_toList]))
          | (go_at_call 40; ((with_reducible refine (sound1_calls k pa pl pc sp p0 p1 p2 p3 ca cl cc wd cp jn mt da dl dc ph fn m ba bl bc l cs ds bs _ _ (HLS.out.up (by (repeat' (first | (with_reducible first | exact Up.refl _ | assumption | refine Up.alloc ?_ _ | refine Up.drew ?_ | refine Up.drewN ?_ _ | refine Up.setCell ?_ ?_ _ | refine Up.call ?_ (by assumption)) | go_size)))) (HT.out.up (by (repeat' (first | (with_reducible first | exact Up.refl _ | assumption | refine Up.alloc ?_ _ | refine Up.drew ?_ | refine Up.drewN ?_ _ | refine Up.setCell ?_ ?_ _ | refine Up.call ?_ (by assumption)) | go_size)))) HR.out).mono ?_); rintro E w1 ⟨rfl, hu1⟩)))
        go_roundw
        case rel => exact ⟨j + 1, by omega, by go_num, Lib.hid (any_step HX.out HNO.out HT2.out), by (repeat' (first | (with_reducible first | exact Up.refl _ | assumption | refine Up.alloc ?_ _ | refine Up.drew ?_ | refine Up.drewN ?_ _ | refine Up.setCell ?_ ?_ _ | refine Up.call ?_ (by assumption)) | go_size))⟩
        case measure => simp [intOf]; omega
    · have HE := Lib.hid (idxG_miss (by have := HN.out; omega) HNO.out)
      have hcast : decide ((j : Int) < (n : Int)) = false := decide_eq_false (by omega)
      go_wp2
      go_ret
      exact ⟨by rw [HE.out]; rfl, by (repeat' (first | (with_reducible first | exact Up.refl _ | assumption | refine Up.alloc ?_ _ | refine Up.drew ?_ | refine Up.drewN ?_ _ | refine Up.setCell ?_ ?_ _ | refine Up.call ?_ (by assumption)) | go_size))⟩
theorem contains_items (its : List Item) (a : Option Addr) (n c : Nat) (w : World) (h : Sl 22 Item.cells w a n c its) (hs : ∀ i ∈ its, i.is w) (hT : Font.Tab w) (hl : n ≤ 5000) :
    Calls Tryz.prog 39 #[.slice a n c, .func (.func 40) #[] #[]] w fun e w' => e = .returned (.bool (its.any (fun i => !itemR i))) ∧ Up w w' := by
  have HI := Lib.hid (idxG_neg (fun i => !itemR i) its)
  have H := Lib.hid h
  have HS := Lib.hid hs
  have HT := Lib.hid hT
  clear h hs hT
  go_enter Tryz.func39, Tryz.ntmps39
  go_wp2_with (go_at_call 68; ((with_reducible refine (index_items its a n c _ H.out HS.out HT.out hl).mono ?_); rintro E w1 ⟨rfl, hu1⟩))
  go_ret
  exact ⟨by rw [← HI.out]; rfl, by (repeat' (first | (with_reducible first | exact Up.refl _ | assumption | refine Up.alloc ?_ _ | refine Up.drew ?_ | refine Up.drewN ?_ _ | refine Up.setCell ?_ ?_ _ | refine Up.call ?_ (by assumption)) | go_size))⟩

set_option maxRecDepth 8000 in
set_option maxHeartbeats 2000000 in
theorem sound_calls (W H : Int) (its : List Item) (a : Option Addr) (n c : Nat) (w : World) (h : Sl 22 Item.cells w a n c its) (hs : ∀ i ∈ its, i.is w) (hT : Font.Tab w) :
    Calls Tryz.prog 17 #[.agg #[.int .i64 W, .int .i64 H, .slice a n c]] w fun e w' => e = .returned (.bool (pageR W H its)) ∧ Up w w' := by
  have HN := h.2.2.1
  have HS := Lib.hid h
  have HI := Lib.hid hs
  have HT := Lib.hid hT
  clear h hs hT
  obtain ⟨tW, hW⟩ : ∃ b, sideR W = b := ⟨_, rfl⟩
  cases tW
  · have HQ := Lib.hid (show pageR W H its = false by simp only [pageR, hW] <;> simp)
    go_enter Tryz.func17, Tryz.ntmps17
    go_wp2_with (first
      | (go_at_call 38; ((with_reducible refine (side_calls W _).mono ?_); rw [hW]; rintro E w1 ⟨rfl, hu1⟩; have z1 := hu1.size; (try simp at z1); have Rw1 : Row w1 w.heap.size #[.int .i64 W, .int .i64 H, .slice a n c] := Row.up (show Row _ w.heap.size #[.int .i64 W, .int .i64 H, .slice a n c] by (repeat' (with_reducible first | assumption | (refine Row.at _ _ ?_; (simp; done)) | refine Row.alloc ?_ _ | refine Row.drew ?_ | refine Row.drewN ?_ _ | refine Row.other ?_ (by first | (simp; done) | (simp; omega) | omega) _ | refine Row.up ?_ (by assumption) | refine Row.chg ?_ (by assumption) (by first | (simp; done) | (simp; omega))))) hu1; have lw1 := Rw1.lt; have qw1_0 : w1.cell? ⟨w.heap.size, 0, none⟩ = some (.int .i64 W) := Rw1.cell 0 rfl; have qw1_1 : w1.cell? ⟨w.heap.size, 1, none⟩ = some (.int .i64 H) := Rw1.cell 1 rfl; have qw1_2 : w1.cell? ⟨w.heap.size, 2, none⟩ = some (.slice a n c) := Rw1.cell 2 rfl)))
    go_ret
    exact ⟨by rw [HQ.out]; rfl, by (repeat' (first | (with_reducible first | exact Up.refl _ | assumption | refine Up.alloc ?_ _ | refine Up.drew ?_ | refine Up.drewN ?_ _ | refine Up.setCell ?_ ?_ _ | refine Up.call ?_ (by assumption)) | go_size))⟩
  obtain ⟨tH, hH⟩ : ∃ b, sideR H = b := ⟨_, rfl⟩
  cases tH
  · have HQ := Lib.hid (show pageR W H its = false by simp only [pageR, hW, hH] <;> simp)
    go_enter Tryz.func17, Tryz.ntmps17
    go_wp2_with (first
      | (go_at_call 38; ((with_reducible refine (side_calls W _).mono ?_); rw [hW]; rintro E w1 ⟨rfl, hu1⟩; have z1 := hu1.size; (try simp at z1); have Rw1 : Row w1 w.heap.size #[.int .i64 W, .int .i64 H, .slice a n c] := Row.up (show Row _ w.heap.size #[.int .i64 W, .int .i64 H, .slice a n c] by (repeat' (with_reducible first | assumption | (refine Row.at _ _ ?_; (simp; done)) | refine Row.alloc ?_ _ | refine Row.drew ?_ | refine Row.drewN ?_ _ | refine Row.other ?_ (by first | (simp; done) | (simp; omega) | omega) _ | refine Row.up ?_ (by assumption) | refine Row.chg ?_ (by assumption) (by first | (simp; done) | (simp; omega))))) hu1; have lw1 := Rw1.lt; have qw1_0 : w1.cell? ⟨w.heap.size, 0, none⟩ = some (.int .i64 W) := Rw1.cell 0 rfl; have qw1_1 : w1.cell? ⟨w.heap.size, 1, none⟩ = some (.int .i64 H) := Rw1.cell 1 rfl; have qw1_2 : w1.cell? ⟨w.heap.size, 2, none⟩ = some (.slice a n c) := Rw1.cell 2 rfl))
      | (go_at_call 38; ((with_reducible refine (side_calls H _).mono ?_); rw [hH]; rintro E w2 ⟨rfl, hu2⟩; have z2 := hu2.size; (try simp at z2); have Rw2 : Row w2 w.heap.size #[.int .i64 W, .int .i64 H, .slice a n c] := Row.up (show Row _ w.heap.size #[.int .i64 W, .int .i64 H, .slice a n c] by (repeat' (with_reducible first | assumption | (refine Row.at _ _ ?_; (simp; done)) | refine Row.alloc ?_ _ | refine Row.drew ?_ | refine Row.drewN ?_ _ | refine Row.other ?_ (by first | (simp; done) | (simp; omega) | omega) _ | refine Row.up ?_ (by assumption) | refine Row.chg ?_ (by assumption) (by first | (simp; done) | (simp; omega))))) hu2; have lw2 := Rw2.lt; have qw2_0 : w2.cell? ⟨w.heap.size, 0, none⟩ = some (.int .i64 W) := Rw2.cell 0 rfl; have qw2_1 : w2.cell? ⟨w.heap.size, 1, none⟩ = some (.int .i64 H) := Rw2.cell 1 rfl; have qw2_2 : w2.cell? ⟨w.heap.size, 2, none⟩ = some (.slice a n c) := Rw2.cell 2 rfl)))
    go_ret
    exact ⟨by rw [HQ.out]; rfl, by (repeat' (first | (with_reducible first | exact Up.refl _ | assumption | refine Up.alloc ?_ _ | refine Up.drew ?_ | refine Up.drewN ?_ _ | refine Up.setCell ?_ ?_ _ | refine Up.call ?_ (by assumption)) | go_size))⟩
  by_cases hn : n ≤ 4096
  rotate_left
  · have hcast : decide ((n : Int) ≤ 4096) = false := decide_eq_false (by omega)
    have hn2 : decide (its.length ≤ 4096) = false := decide_eq_false (by omega)
    have HN2 := Lib.hid hn2
    clear hn2
    have HQ := Lib.hid (show pageR W H its = false by simp only [pageR, hW, hH, HN2.out] <;> simp)
    go_enter Tryz.func17, Tryz.ntmps17
    go_wp2_with (first
      | (go_at_call 38; ((with_reducible refine (side_calls W _).mono ?_); rw [hW]; rintro E w1 ⟨rfl, hu1⟩; have z1 := hu1.size; (try simp at z1); have Rw1 : Row w1 w.heap.size #[.int .i64 W, .int .i64 H, .slice a n c] := Row.up (show Row _ w.heap.size #[.int .i64 W, .int .i64 H, .slice a n c] by (repeat' (with_reducible first | assumption | (refine Row.at _ _ ?_; (simp; done)) | refine Row.alloc ?_ _ | refine Row.drew ?_ | refine Row.drewN ?_ _ | refine Row.other ?_ (by first | (simp; done) | (simp; omega) | omega) _ | refine Row.up ?_ (by assumption) | refine Row.chg ?_ (by assumption) (by first | (simp; done) | (simp; omega))))) hu1; have lw1 := Rw1.lt; have qw1_0 : w1.cell? ⟨w.heap.size, 0, none⟩ = some (.int .i64 W) := Rw1.cell 0 rfl; have qw1_1 : w1.cell? ⟨w.heap.size, 1, none⟩ = some (.int .i64 H) := Rw1.cell 1 rfl; have qw1_2 : w1.cell? ⟨w.heap.size, 2, none⟩ = some (.slice a n c) := Rw1.cell 2 rfl))
      | (go_at_call 38; ((with_reducible refine (side_calls H _).mono ?_); rw [hH]; rintro E w2 ⟨rfl, hu2⟩; have z2 := hu2.size; (try simp at z2); have Rw2 : Row w2 w.heap.size #[.int .i64 W, .int .i64 H, .slice a n c] := Row.up (show Row _ w.heap.size #[.int .i64 W, .int .i64 H, .slice a n c] by (repeat' (with_reducible first | assumption | (refine Row.at _ _ ?_; (simp; done)) | refine Row.alloc ?_ _ | refine Row.drew ?_ | refine Row.drewN ?_ _ | refine Row.other ?_ (by first | (simp; done) | (simp; omega) | omega) _ | refine Row.up ?_ (by assumption) | refine Row.chg ?_ (by assumption) (by first | (simp; done) | (simp; omega))))) hu2; have lw2 := Rw2.lt; have qw2_0 : w2.cell? ⟨w.heap.size, 0, none⟩ = some (.int .i64 W) := Rw2.cell 0 rfl; have qw2_1 : w2.cell? ⟨w.heap.size, 1, none⟩ = some (.int .i64 H) := Rw2.cell 1 rfl; have qw2_2 : w2.cell? ⟨w.heap.size, 2, none⟩ = some (.slice a n c) := Rw2.cell 2 rfl)))
    go_ret
    exact ⟨by rw [HQ.out]; rfl, by (repeat' (first | (with_reducible first | exact Up.refl _ | assumption | refine Up.alloc ?_ _ | refine Up.drew ?_ | refine Up.drewN ?_ _ | refine Up.setCell ?_ ?_ _ | refine Up.call ?_ (by assumption)) | go_size))⟩
  have hcast : decide ((n : Int) ≤ 4096) = true := decide_eq_true (by omega)
  have HN2 := Lib.hid (show decide (its.length ≤ 4096) = true from decide_eq_true (by omega))
  have HQ := Lib.hid (show pageR W H its = (!its.any (fun i => !itemR i)) by simp only [pageR, hW, hH, HN2.out, all_not] <;> simp)
  go_enter Tryz.func17, Tryz.ntmps17
  go_wp2_with (first
    | (go_at_call 38; ((with_reducible refine (side_calls W _).mono ?_); rw [hW]; rintro E w1 ⟨rfl, hu1⟩; have z1 := hu1.size; (try simp at z1); have Rw1 : Row w1 w.heap.size #[.int .i64 W, .int .i64 H, .slice a n c] := Row.up (show Row _ w.heap.size #[.int .i64 W, .int .i64 H, .slice a n c] by (repeat' (with_reducible first | assumption | (refine Row.at _ _ ?_; (simp; done)) | refine Row.alloc ?_ _ | refine Row.drew ?_ | refine Row.drewN ?_ _ | refine Row.other ?_ (by first | (simp; done) | (simp; omega) | omega) _ | refine Row.up ?_ (by assumption) | refine Row.chg ?_ (by assumption) (by first | (simp; done) | (simp; omega))))) hu1; have lw1 := Rw1.lt; have qw1_0 : w1.cell? ⟨w.heap.size, 0, none⟩ = some (.int .i64 W) := Rw1.cell 0 rfl; have qw1_1 : w1.cell? ⟨w.heap.size, 1, none⟩ = some (.int .i64 H) := Rw1.cell 1 rfl; have qw1_2 : w1.cell? ⟨w.heap.size, 2, none⟩ = some (.slice a n c) := Rw1.cell 2 rfl))
    | (go_at_call 38; ((with_reducible refine (side_calls H _).mono ?_); rw [hH]; rintro E w2 ⟨rfl, hu2⟩; have z2 := hu2.size; (try simp at z2); have Rw2 : Row w2 w.heap.size #[.int .i64 W, .int .i64 H, .slice a n c] := Row.up (show Row _ w.heap.size #[.int .i64 W, .int .i64 H, .slice a n c] by (repeat' (with_reducible first | assumption | (refine Row.at _ _ ?_; (simp; done)) | refine Row.alloc ?_ _ | refine Row.drew ?_ | refine Row.drewN ?_ _ | refine Row.other ?_ (by first | (simp; done) | (simp; omega) | omega) _ | refine Row.up ?_ (by assumption) | refine Row.chg ?_ (by assumption) (by first | (simp; done) | (simp; omega))))) hu2; have lw2 := Rw2.lt; have qw2_0 : w2.cell? ⟨w.heap.size, 0, none⟩ = some (.int .i64 W) := Rw2.cell 0 rfl; have qw2_1 : w2.cell? ⟨w.heap.size, 1, none⟩ = some (.int .i64 H) := Rw2.cell 1 rfl; have qw2_2 : w2.cell? ⟨w.heap.size, 2, none⟩ = some (.slice a n c) := Rw2.cell 2 rfl))
    | (go_at_call 39; ((with_reducible refine (contains_items its a n c _ (sl_up HS.out (by (repeat' (first | (with_reducible first | exact Up.refl _ | assumption | refine Up.alloc ?_ _ | refine Up.drew ?_ | refine Up.drewN ?_ _ | refine Up.setCell ?_ ?_ _ | refine Up.call ?_ (by assumption)) | go_size)))) (fun i hi => (HI.out i hi).up (by (repeat' (first | (with_reducible first | exact Up.refl _ | assumption | refine Up.alloc ?_ _ | refine Up.drew ?_ | refine Up.drewN ?_ _ | refine Up.setCell ?_ ?_ _ | refine Up.call ?_ (by assumption)) | go_size)))) (HT.out.up (by (repeat' (first | (with_reducible first | exact Up.refl _ | assumption | refine Up.alloc ?_ _ | refine Up.drew ?_ | refine Up.drewN ?_ _ | refine Up.setCell ?_ ?_ _ | refine Up.call ?_ (by assumption)) | go_size)))) (by omega)).mono ?_); rintro E w3 ⟨rfl, hu3⟩)))
  go_ret
  exact ⟨by rw [HQ.out]; rfl, by (repeat' (first | (with_reducible first | exact Up.refl _ | assumption | refine Up.alloc ?_ _ | refine Up.drew ?_ | refine Up.drewN ?_ _ | refine Up.setCell ?_ ?_ _ | refine Up.call ?_ (by assumption)) | go_size))⟩

end Go.Proofs.YtpellcdggaeppaaGreatDoor.Pt
end
