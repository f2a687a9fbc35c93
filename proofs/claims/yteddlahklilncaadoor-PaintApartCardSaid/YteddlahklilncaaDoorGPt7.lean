/- The reference's SoundItem, walked. No condition. -/
import Derived.Test.YteddlahklilncaaDoorGD
import Derived.Test.YteddlahklilncaaDoorPt6
import Derived.Deep.Cut
namespace Go.Proofs.YteddlahklilncaaDoor.Pt
open Go.ChangeShapes Go.WideShapes Go.ChangeAt Go.RowKit
open Go.Proofs.YteddlahklilncaaDoor.FixM (fits)
open Go.Proofs.YteddlahklilncaaDoor.PathM (Seg sound)
open Go.Proofs.YteddlahklilncaaDoor.MatM (M6)
set_option linter.unusedVariables false
set_option linter.unusedSimpArgs false

theorem letters_bad {fn : Int} {m : M6} {bl : Nat} (h : ((lM m).any fun n => !fits n) = true) : lettersR fn m bl = false := by
  simp only [lettersR, h, Bool.not_true, Bool.and_false]
theorem letters_val {fn : Int} {m : M6} {bl : Nat} {v : Bool} (h : ((lM m).any fun n => !fits n) = false) (e : (decide (0 ≤ fn) && (decide (fn ≤ 13) && (decide ((1 : Int) ≤ (bl : Int)) && decide ((bl : Int) ≤ 65535)))) = v) : lettersR fn m bl = v := by
  subst e
  have e1 : decide (0 ≤ fn ∧ fn < 14) = (decide (0 ≤ fn) && decide (fn ≤ 13)) := by
    rw [← Bool.decide_and]
    exact decide_eq_decide.2 (by omega)
  have e2 : decide (1 ≤ bl) = decide ((1 : Int) ≤ (bl : Int)) := decide_eq_decide.2 (by omega)
  have e3 : decide (bl ≤ 65535) = decide ((bl : Int) ≤ 65535) := decide_eq_decide.2 (by omega)
  simp only [lettersR, h, e1, e2, e3, Bool.not_false, Bool.and_true, Bool.and_assoc]

set_option maxRecDepth 8000 in
set_option maxHeartbeats 16000000 in
theorem soundItem_1 (k : Int) (pa : Option Addr) (pl pc : Nat) (p0 p1 p2 p3 : Int) (ca : Option Addr) (cl cc : Nat) (wd cp jn mt : Int) (da : Option Addr) (dl dc : Nat) (ph fn : Int) (m : M6) (ba : Option Addr) (bl bc : Nat) (l : List Seg) (cs : List Clip) (ds bs : List Int) (tC tK tL tN tP tS tM : Bool) (w : World) (hL : Lists w pa pl pc ca cl cc da dl dc ba bl bc l cs ds bs)
    (hC : colorR 1 p0 p1 p2 p3 = tC) (hK : clipsR cs = tK) (hLT : lettersR fn m bl = tL) (hNO : noneR wd cp jn mt dl ph = tN) (hPN : penR wd cp jn mt ds ph = tP) (hSO : sound l = tS) (hM : m0 m = tM) :
    Calls Tryd.prog 10 #[.agg #[.int .i64 k, .slice pa pl pc, .int .i64 1, .int .i64 p0, .int .i64 p1, .int .i64 p2, .int .i64 p3, .slice ca cl cc, .int .i64 wd, .int .i64 cp, .int .i64 jn, .int .i64 mt, .slice da dl dc, .int .i64 ph, .int .i64 fn, .int .i64 m.a, .int .i64 m.b, .int .i64 m.c, .int .i64 m.d, .int .i64 m.x, .int .i64 m.y, .slice ba bl bc]] w fun E w' => E = .returned (.bool (itemB tC tK tL tN tP tS tM k fn pl bl)) ∧ Up w w' := by
  have HL := Lib.hid hL
  have HC := Lib.hid hC
  have HK := Lib.hid hK
  have HLT := Lib.hid hLT
  have HNO := Lib.hid hNO
  have HPN := Lib.hid hPN
  have HSO := Lib.hid hSO
  have HCN := Lib.hid hL.sl.2.2.1
  have HCC := Lib.hid hL.sl.2.2.2.2
  have heq : ∀ W : World, (Op.equalIn 10000 33 (.agg #[.int .i64 m.a, .int .i64 m.b, .int .i64 m.c, .int .i64 m.d, .int .i64 m.x, .int .i64 m.y]) (.agg #[.int .i64 0, .int .i64 0, .int .i64 0, .int .i64 0, .int .i64 0, .int .i64 0])).run Tryd.prog W = .ok tM W := fun W => by
    rw [run_eq6]
    exact congrArg (fun b => Result.ok b W) hM
  clear hL hC hK hLT hNO hPN hSO hM
  have HS := Lib.hid (show spaceOk 1 = true by decide)
  go_enter Tryd.func10, Tryd.ntmps10
  go_wp2
  go_loop [4] (fun s4 => ∃ j : Nat, j ≤ 4 ∧ s4 = .int .i64 j ∧ Hid (0 < j → partOk 1 0 p0 = true) ∧ Hid (1 < j → partOk 1 1 p1 = true) ∧ Hid (2 < j → partOk 1 2 p2 = true) ∧ Hid (3 < j → partOk 1 3 p3 = true)) (fun s4 => 4 - (intOf s4).toNat)
  case atStart => exact ⟨0, by decide, rfl, Lib.hid (fun h => absurd h (by decide)), Lib.hid (fun h => absurd h (by decide)), Lib.hid (fun h => absurd h (by decide)), Lib.hid (fun h => absurd h (by decide))⟩
  case round =>
    obtain ⟨j, hj, rfl, HO0, HO1, HO2, HO3⟩ := hrel
    rcases (show j = 0 ∨ j = 1 ∨ j = 2 ∨ j = 3 ∨ j = 4 by omega) with rfl | rfl | rfl | rfl | rfl
    · obtain ⟨b1, q1⟩ : ∃ b, decide (p0 < 0) = b := ⟨_, rfl⟩
      cases b1
      rotate_left
      · have H := Lib.hid (show (itemB tC tK tL tN tP tS tM k fn pl bl) = false by have hc : tC = false := (by rw [← HC.out]; have h1 : partOk 1 0 p0 = false := (by simp [partOk, q1]); simp [colorR, h1]); rw [hc]; simp [itemB])
        go_wp2
        go_ret
        exact ⟨by rw [H.out]; rfl, by (repeat' (first | (with_reducible first | exact Up.refl _ | assumption | refine Up.alloc ?_ _ | refine Up.drew ?_ | refine Up.drewN ?_ _ | refine Up.setCell ?_ ?_ _ | refine Up.call ?_ (by assumption)) | go_size))⟩
      obtain ⟨b2, q2⟩ : ∃ b, decide (65536 < p0) = b := ⟨_, rfl⟩
      cases b2
      rotate_left
      · have H := Lib.hid (show (itemB tC tK tL tN tP tS tM k fn pl bl) = false by have hc : tC = false := (by rw [← HC.out]; have h1 : partOk 1 0 p0 = false := (by simp [partOk, q1, q2]); simp [colorR, h1]); rw [hc]; simp [itemB])
        go_wp2
        go_ret
        exact ⟨by rw [H.out]; rfl, by (repeat' (first | (with_reducible first | exact Up.refl _ | assumption | refine Up.alloc ?_ _ | refine Up.drew ?_ | refine Up.drewN ?_ _ | refine Up.setCell ?_ ?_ _ | refine Up.call ?_ (by assumption)) | go_size))⟩
      have HG := Lib.hid (show partOk 1 0 p0 = true by simp [partOk, q1, q2])
      go_wp2
      go_roundw
      case rel => exact ⟨1, by decide, by go_num, Lib.hid (fun _ => HG.out), Lib.hid (fun h => absurd h (by decide)), Lib.hid (fun h => absurd h (by decide)), Lib.hid (fun h => absurd h (by decide))⟩
      case measure => simp [intOf]
    · obtain ⟨b1, q1⟩ : ∃ b, decide (p1 < 0) = b := ⟨_, rfl⟩
      cases b1
      rotate_left
      · have H := Lib.hid (show (itemB tC tK tL tN tP tS tM k fn pl bl) = false by have hc : tC = false := (by rw [← HC.out]; have h1 : partOk 1 1 p1 = false := (by simp [partOk, q1]); simp [colorR, h1]); rw [hc]; simp [itemB])
        go_wp2
        go_ret
        exact ⟨by rw [H.out]; rfl, by (repeat' (first | (with_reducible first | exact Up.refl _ | assumption | refine Up.alloc ?_ _ | refine Up.drew ?_ | refine Up.drewN ?_ _ | refine Up.setCell ?_ ?_ _ | refine Up.call ?_ (by assumption)) | go_size))⟩
      obtain ⟨b2, q2⟩ : ∃ b, decide (65536 < p1) = b := ⟨_, rfl⟩
      cases b2
      rotate_left
      · have H := Lib.hid (show (itemB tC tK tL tN tP tS tM k fn pl bl) = false by have hc : tC = false := (by rw [← HC.out]; have h1 : partOk 1 1 p1 = false := (by simp [partOk, q1, q2]); simp [colorR, h1]); rw [hc]; simp [itemB])
        go_wp2
        go_ret
        exact ⟨by rw [H.out]; rfl, by (repeat' (first | (with_reducible first | exact Up.refl _ | assumption | refine Up.alloc ?_ _ | refine Up.drew ?_ | refine Up.drewN ?_ _ | refine Up.setCell ?_ ?_ _ | refine Up.call ?_ (by assumption)) | go_size))⟩
      obtain ⟨b4, q4⟩ : ∃ b, (p1 != 0) = b := ⟨_, rfl⟩
      cases b4
      rotate_left
      · have H := Lib.hid (show (itemB tC tK tL tN tP tS tM k fn pl bl) = false by have hc : tC = false := (by rw [← HC.out]; have h1 : partOk 1 1 p1 = false := (by simp [partOk, q1, q2, show (p1 == 0) = false by simpa using q4]); simp [colorR, h1]); rw [hc]; simp [itemB])
        go_wp2
        go_ret
        exact ⟨by rw [H.out]; rfl, by (repeat' (first | (with_reducible first | exact Up.refl _ | assumption | refine Up.alloc ?_ _ | refine Up.drew ?_ | refine Up.drewN ?_ _ | refine Up.setCell ?_ ?_ _ | refine Up.call ?_ (by assumption)) | go_size))⟩
      have Q5 := Lib.hid (show (p1 == 0) = true by simpa using q4)
      have HG := Lib.hid (show partOk 1 1 p1 = true by simp [partOk, q1, q2, Q5.out])
      go_wp2
      go_roundw
      case rel => exact ⟨2, by decide, by go_num, Lib.hid (fun _ => HO0.out (by decide)), Lib.hid (fun _ => HG.out), Lib.hid (fun h => absurd h (by decide)), Lib.hid (fun h => absurd h (by decide))⟩
      case measure => simp [intOf]
    · obtain ⟨b1, q1⟩ : ∃ b, decide (p2 < 0) = b := ⟨_, rfl⟩
      cases b1
      rotate_left
      · have H := Lib.hid (show (itemB tC tK tL tN tP tS tM k fn pl bl) = false by have hc : tC = false := (by rw [← HC.out]; have h1 : partOk 1 2 p2 = false := (by simp [partOk, q1]); simp [colorR, h1]); rw [hc]; simp [itemB])
        go_wp2
        go_ret
        exact ⟨by rw [H.out]; rfl, by (repeat' (first | (with_reducible first | exact Up.refl _ | assumption | refine Up.alloc ?_ _ | refine Up.drew ?_ | refine Up.drewN ?_ _ | refine Up.setCell ?_ ?_ _ | refine Up.call ?_ (by assumption)) | go_size))⟩
      obtain ⟨b2, q2⟩ : ∃ b, decide (65536 < p2) = b := ⟨_, rfl⟩
      cases b2
      rotate_left
      · have H := Lib.hid (show (itemB tC tK tL tN tP tS tM k fn pl bl) = false by have hc : tC = false := (by rw [← HC.out]; have h1 : partOk 1 2 p2 = false := (by simp [partOk, q1, q2]); simp [colorR, h1]); rw [hc]; simp [itemB])
        go_wp2
        go_ret
        exact ⟨by rw [H.out]; rfl, by (repeat' (first | (with_reducible first | exact Up.refl _ | assumption | refine Up.alloc ?_ _ | refine Up.drew ?_ | refine Up.drewN ?_ _ | refine Up.setCell ?_ ?_ _ | refine Up.call ?_ (by assumption)) | go_size))⟩
      obtain ⟨b4, q4⟩ : ∃ b, (p2 != 0) = b := ⟨_, rfl⟩
      cases b4
      rotate_left
      · have H := Lib.hid (show (itemB tC tK tL tN tP tS tM k fn pl bl) = false by have hc : tC = false := (by rw [← HC.out]; have h1 : partOk 1 2 p2 = false := (by simp [partOk, q1, q2, show (p2 == 0) = false by simpa using q4]); simp [colorR, h1]); rw [hc]; simp [itemB])
        go_wp2
        go_ret
        exact ⟨by rw [H.out]; rfl, by (repeat' (first | (with_reducible first | exact Up.refl _ | assumption | refine Up.alloc ?_ _ | refine Up.drew ?_ | refine Up.drewN ?_ _ | refine Up.setCell ?_ ?_ _ | refine Up.call ?_ (by assumption)) | go_size))⟩
      have Q5 := Lib.hid (show (p2 == 0) = true by simpa using q4)
      have HG := Lib.hid (show partOk 1 2 p2 = true by simp [partOk, q1, q2, Q5.out])
      go_wp2
      go_roundw
      case rel => exact ⟨3, by decide, by go_num, Lib.hid (fun _ => HO0.out (by decide)), Lib.hid (fun _ => HO1.out (by decide)), Lib.hid (fun _ => HG.out), Lib.hid (fun h => absurd h (by decide))⟩
      case measure => simp [intOf]
    · obtain ⟨b1, q1⟩ : ∃ b, decide (p3 < 0) = b := ⟨_, rfl⟩
      cases b1
      rotate_left
      · have H := Lib.hid (show (itemB tC tK tL tN tP tS tM k fn pl bl) = false by have hc : tC = false := (by rw [← HC.out]; have h1 : partOk 1 3 p3 = false := (by simp [partOk, q1]); simp [colorR, h1]); rw [hc]; simp [itemB])
        go_wp2
        go_ret
        exact ⟨by rw [H.out]; rfl, by (repeat' (first | (with_reducible first | exact Up.refl _ | assumption | refine Up.alloc ?_ _ | refine Up.drew ?_ | refine Up.drewN ?_ _ | refine Up.setCell ?_ ?_ _ | refine Up.call ?_ (by assumption)) | go_size))⟩
      obtain ⟨b2, q2⟩ : ∃ b, decide (65536 < p3) = b := ⟨_, rfl⟩
      cases b2
      rotate_left
      · have H := Lib.hid (show (itemB tC tK tL tN tP tS tM k fn pl bl) = false by have hc : tC = false := (by rw [← HC.out]; have h1 : partOk 1 3 p3 = false := (by simp [partOk, q1, q2]); simp [colorR, h1]); rw [hc]; simp [itemB])
        go_wp2
        go_ret
        exact ⟨by rw [H.out]; rfl, by (repeat' (first | (with_reducible first | exact Up.refl _ | assumption | refine Up.alloc ?_ _ | refine Up.drew ?_ | refine Up.drewN ?_ _ | refine Up.setCell ?_ ?_ _ | refine Up.call ?_ (by assumption)) | go_size))⟩
      obtain ⟨b4, q4⟩ : ∃ b, (p3 != 0) = b := ⟨_, rfl⟩
      cases b4
      rotate_left
      · have H := Lib.hid (show (itemB tC tK tL tN tP tS tM k fn pl bl) = false by have hc : tC = false := (by rw [← HC.out]; have h1 : partOk 1 3 p3 = false := (by simp [partOk, q1, q2, show (p3 == 0) = false by simpa using q4]); simp [colorR, h1]); rw [hc]; simp [itemB])
        go_wp2
        go_ret
        exact ⟨by rw [H.out]; rfl, by (repeat' (first | (with_reducible first | exact Up.refl _ | assumption | refine Up.alloc ?_ _ | refine Up.drew ?_ | refine Up.drewN ?_ _ | refine Up.setCell ?_ ?_ _ | refine Up.call ?_ (by assumption)) | go_size))⟩
      have Q5 := Lib.hid (show (p3 == 0) = true by simpa using q4)
      have HG := Lib.hid (show partOk 1 3 p3 = true by simp [partOk, q1, q2, Q5.out])
      go_wp2
      go_roundw
      case rel => exact ⟨4, by decide, by go_num, Lib.hid (fun _ => HO0.out (by decide)), Lib.hid (fun _ => HO1.out (by decide)), Lib.hid (fun _ => HO2.out (by decide)), Lib.hid (fun _ => HG.out)⟩
      case measure => simp [intOf]
    · have HTC := Lib.hid (show tC = true by rw [← HC.out]; simp [colorR, HS.out, HO0.out (by decide), HO1.out (by decide), HO2.out (by decide), HO3.out (by decide)])
      obtain rfl := HTC.out
      by_cases h16 : cl ≤ 16
      rotate_left
      · have hcast : decide ((16 : Int) < (cl : Int)) = true := decide_eq_true (by omega)
        have H := Lib.hid (show itemB true tK tL tN tP tS tM k fn pl bl = false by have e : clipsR cs = false := (by simp only [clipsR, HCN.out, decide_eq_false h16, Bool.false_and]); rw [← HK.out, e]; simp [itemB])
        go_wp2
        go_ret
        exact ⟨by rw [H.out]; rfl, by (repeat' (first | (with_reducible first | exact Up.refl _ | assumption | refine Up.alloc ?_ _ | refine Up.drew ?_ | refine Up.drewN ?_ _ | refine Up.setCell ?_ ?_ _ | refine Up.call ?_ (by assumption)) | go_size))⟩
      have hcast : decide ((16 : Int) < (cl : Int)) = false := decide_eq_false (by omega)
      go_wp2
      go_loopw [5] (fun s5 wr => ∃ j : Nat, j ≤ cl ∧ s5 = .int .i64 j ∧ Hid ((cs.take j).all clipOk = true) ∧ Hid (Row wr w.heap.size #[.int .i64 k, .slice pa pl pc, .int .i64 1, .int .i64 p0, .int .i64 p1, .int .i64 p2, .int .i64 p3, .slice ca cl cc, .int .i64 wd, .int .i64 cp, .int .i64 jn, .int .i64 mt, .slice da dl dc, .int .i64 ph, .int .i64 fn, .int .i64 m.a, .int .i64 m.b, .int .i64 m.c, .int .i64 m.d, .int .i64 m.x, .int .i64 m.y, .slice ba bl bc]) ∧ Up w wr) (fun s5 _ => cl - (intOf s5).toNat)
      case atStart => exact ⟨0, Nat.zero_le _, rfl, Lib.hid (by simp), Lib.hid (by (repeat' (with_reducible first | assumption | (refine Row.at _ _ ?_; (simp; done)) | refine Row.alloc ?_ _ | refine Row.drew ?_ | refine Row.drewN ?_ _ | refine Row.other ?_ (by first | (simp; done) | (simp; omega) | omega) _ | refine Row.up ?_ (by assumption) | refine Row.chg ?_ (by assumption) (by first | (simp; done) | (simp; omega))))), by (repeat' (first | (with_reducible first | exact Up.refl _ | assumption | refine Up.alloc ?_ _ | refine Up.drew ?_ | refine Up.drewN ?_ _ | refine Up.setCell ?_ ?_ _ | refine Up.call ?_ (by assumption)) | go_size))⟩
      case round =>
        clear hcast
        obtain ⟨j, hj, rfl, HA, HRW, hup⟩ := hrel
        have RWR := HRW.out
        have lWR := RWR.lt
        have hz := hup.size
        have qWR_0 : wr.cell? ⟨w.heap.size, 0, none⟩ = some (.int .i64 k) := RWR.cell 0 rfl
        have qWR_1 : wr.cell? ⟨w.heap.size, 1, none⟩ = some (.slice pa pl pc) := RWR.cell 1 rfl
        have qWR_7 : wr.cell? ⟨w.heap.size, 7, none⟩ = some (.slice ca cl cc) := RWR.cell 7 rfl
        have qWR_8 : wr.cell? ⟨w.heap.size, 8, none⟩ = some (.int .i64 wd) := RWR.cell 8 rfl
        have qWR_9 : wr.cell? ⟨w.heap.size, 9, none⟩ = some (.int .i64 cp) := RWR.cell 9 rfl
        have qWR_10 : wr.cell? ⟨w.heap.size, 10, none⟩ = some (.int .i64 jn) := RWR.cell 10 rfl
        have qWR_11 : wr.cell? ⟨w.heap.size, 11, none⟩ = some (.int .i64 mt) := RWR.cell 11 rfl
        have qWR_12 : wr.cell? ⟨w.heap.size, 12, none⟩ = some (.slice da dl dc) := RWR.cell 12 rfl
        have qWR_13 : wr.cell? ⟨w.heap.size, 13, none⟩ = some (.int .i64 ph) := RWR.cell 13 rfl
        have qWR_14 : wr.cell? ⟨w.heap.size, 14, none⟩ = some (.int .i64 fn) := RWR.cell 14 rfl
        have qWR_15 : wr.cell? ⟨w.heap.size, 15, none⟩ = some (.int .i64 m.a) := RWR.cell 15 rfl
        have qWR_16 : wr.cell? ⟨w.heap.size, 16, none⟩ = some (.int .i64 m.b) := RWR.cell 16 rfl
        have qWR_17 : wr.cell? ⟨w.heap.size, 17, none⟩ = some (.int .i64 m.c) := RWR.cell 17 rfl
        have qWR_18 : wr.cell? ⟨w.heap.size, 18, none⟩ = some (.int .i64 m.d) := RWR.cell 18 rfl
        have qWR_19 : wr.cell? ⟨w.heap.size, 19, none⟩ = some (.int .i64 m.x) := RWR.cell 19 rfl
        have qWR_20 : wr.cell? ⟨w.heap.size, 20, none⟩ = some (.int .i64 m.y) := RWR.cell 20 rfl
        have qWR_21 : wr.cell? ⟨w.heap.size, 21, none⟩ = some (.slice ba bl bc) := RWR.cell 21 rfl
        by_cases hlt : j < cl
        · obtain ⟨⟨v, sl, eo⟩, hx⟩ : ∃ x, cs[j]? = some x := ⟨_, List.getElem?_eq_getElem (by have := HCN.out; omega)⟩
          obtain ⟨b, ob, rfl, hb, hc⟩ := HCC.out (by omega)
          have hc0 := hc j _ 0 _ hx rfl
          simp only [Clip.cells, Nat.add_zero] at hc0
          have hq0 := (hup.cells.1 b _ hb).trans hc0
          have hsv := HL.out.sv _ (List.mem_of_getElem? hx)
          simp only at hsv
          obtain ⟨va, vc, e⟩ := segV_len hsv
          subst e
          obtain ⟨vn, hvn⟩ : ∃ vn, sl.length = vn := ⟨_, rfl⟩
          rw [hvn] at hq0 hsv
          have HSV := Lib.hid hsv
          have HVN := Lib.hid hvn
          have HX := Lib.hid hx
          have hlb : b < wr.heap.size := Nat.lt_of_lt_of_le hb hup.size
          have hcast : decide ((j : Int) < (cl : Int)) = true := decide_eq_true (by omega)
          clear hc0 hc hx hsv hvn
          have HBAD := Lib.hid (fun (h : clipOk ⟨.slice va vn vc, sl, eo⟩ = false) => Lib.hid (show itemB true tK tL tN tP tS tM k fn pl bl = false by
            have e : clipsR cs = false := by
              have e2 : cs.all clipOk = false := by
                rw [List.all_eq_false]
                exact ⟨_, List.mem_of_getElem? HX.out, by rw [HVN.out]; simp [h]⟩
              simp [clipsR, e2]
            rw [← HK.out, e]
            simp [itemB]))
          obtain ⟨b1, q1⟩ : ∃ b, ((vn : Int) == 0) = b := ⟨_, rfl⟩
          have HQ1 := Lib.hid (show (sl.length == 0) = b1 by rw [HVN.out, ← q1]; cases vn <;> simp <;> omega)
          cases b1
          rotate_left
          · have H := HBAD.out (by simp [clipOk, HQ1.out])
            go_wp2
            go_ret
            exact ⟨by rw [H.out]; rfl, by (repeat' (first | (with_reducible first | exact Up.refl _ | assumption | refine Up.alloc ?_ _ | refine Up.drew ?_ | refine Up.drewN ?_ _ | refine Up.setCell ?_ ?_ _ | refine Up.call ?_ (by assumption)) | go_size))⟩
          obtain ⟨b2, hb2⟩ : ∃ b, sound sl = b := ⟨_, rfl⟩
          have HB2 := Lib.hid hb2
          clear hb2
          cases b2
          · have H := HBAD.out (by simp [clipOk, HB2.out])
            go_wp2_with (go_at_call 23; ((with_reducible refine (Path.soundPath_calls (.slice va vn vc) sl _ (HSV.out.up (by (repeat' (first | (with_reducible first | exact Up.refl _ | assumption | refine Up.alloc ?_ _ | refine Up.drew ?_ | refine Up.drewN ?_ _ | refine Up.setCell ?_ ?_ _ | refine Up.call ?_ (by assumption)) | go_size))))).mono ?_); rw [HB2.out]; rintro E w7 ⟨rfl, hu7⟩))
            go_ret
            exact ⟨by rw [H.out]; rfl, by (repeat' (first | (with_reducible first | exact Up.refl _ | assumption | refine Up.alloc ?_ _ | refine Up.drew ?_ | refine Up.drewN ?_ _ | refine Up.setCell ?_ ?_ _ | refine Up.call ?_ (by assumption)) | go_size))⟩
          have HOK := Lib.hid (show clipOk ⟨.slice va sl.length vc, sl, eo⟩ = true by simp [clipOk, HQ1.out, HB2.out])
          go_wp2_with (go_at_call 23; ((with_reducible refine (Path.soundPath_calls (.slice va vn vc) sl _ (HSV.out.up (by (repeat' (first | (with_reducible first | exact Up.refl _ | assumption | refine Up.alloc ?_ _ | refine Up.drew ?_ | refine Up.drewN ?_ _ | refine Up.setCell ?_ ?_ _ | refine Up.call ?_ (by assumption)) | go_size))))).mono ?_); rw [HB2.out]; rintro E w7 ⟨rfl, hu7⟩))
          go_roundw
          case rel => exact ⟨j + 1, by omega, by go_num, Lib.hid (all_step HX.out HA.out HOK.out), Lib.hid (Row.up RWR hu7), by (repeat' (first | (with_reducible first | exact Up.refl _ | assumption | refine Up.alloc ?_ _ | refine Up.drew ?_ | refine Up.drewN ?_ _ | refine Up.setCell ?_ ?_ _ | refine Up.call ?_ (by assumption)) | go_size))⟩
          case measure => simp [intOf]; omega
        have hcast : decide ((j : Int) < (cl : Int)) = false := decide_eq_false (by omega)
        have HTK := Lib.hid (show tK = true by
          rw [← HK.out]
          have h1 := HA.out
          rw [List.take_of_length_le (by have := HCN.out; omega)] at h1
          simp only [clipsR, h1, HCN.out, decide_eq_true h16, Bool.and_true])
        obtain rfl := HTK.out
        by_cases hk : k = 4
        · subst hk
          go_wp2_with (first
            | (go_at_call 24; ((with_reducible refine (samePen_calls wd cp jn mt ph da dl dc _).mono ?_); rw [HNO.out]; rintro E w4 ⟨rfl, hu4⟩; have z4 := hu4.size; (try simp at z4); have Rw4 : Row w4 w.heap.size #[.int .i64 4, .slice pa pl pc, .int .i64 1, .int .i64 p0, .int .i64 p1, .int .i64 p2, .int .i64 p3, .slice ca cl cc, .int .i64 wd, .int .i64 cp, .int .i64 jn, .int .i64 mt, .slice da dl dc, .int .i64 ph, .int .i64 fn, .int .i64 m.a, .int .i64 m.b, .int .i64 m.c, .int .i64 m.d, .int .i64 m.x, .int .i64 m.y, .slice ba bl bc] := Row.up (show Row _ w.heap.size #[.int .i64 4, .slice pa pl pc, .int .i64 1, .int .i64 p0, .int .i64 p1, .int .i64 p2, .int .i64 p3, .slice ca cl cc, .int .i64 wd, .int .i64 cp, .int .i64 jn, .int .i64 mt, .slice da dl dc, .int .i64 ph, .int .i64 fn, .int .i64 m.a, .int .i64 m.b, .int .i64 m.c, .int .i64 m.d, .int .i64 m.x, .int .i64 m.y, .slice ba bl bc] by (repeat' (with_reducible first | assumption | (refine Row.at _ _ ?_; (simp; done)) | refine Row.alloc ?_ _ | refine Row.drew ?_ | refine Row.drewN ?_ _ | refine Row.other ?_ (by first | (simp; done) | (simp; omega) | omega) _ | refine Row.up ?_ (by assumption) | refine Row.chg ?_ (by assumption) (by first | (simp; done) | (simp; omega))))) hu4; have lw4 := Rw4.lt; have qw4_0 : w4.cell? ⟨w.heap.size, 0, none⟩ = some (.int .i64 4) := Rw4.cell 0 rfl; have qw4_1 : w4.cell? ⟨w.heap.size, 1, none⟩ = some (.slice pa pl pc) := Rw4.cell 1 rfl; have qw4_7 : w4.cell? ⟨w.heap.size, 7, none⟩ = some (.slice ca cl cc) := Rw4.cell 7 rfl; have qw4_8 : w4.cell? ⟨w.heap.size, 8, none⟩ = some (.int .i64 wd) := Rw4.cell 8 rfl; have qw4_9 : w4.cell? ⟨w.heap.size, 9, none⟩ = some (.int .i64 cp) := Rw4.cell 9 rfl; have qw4_10 : w4.cell? ⟨w.heap.size, 10, none⟩ = some (.int .i64 jn) := Rw4.cell 10 rfl; have qw4_11 : w4.cell? ⟨w.heap.size, 11, none⟩ = some (.int .i64 mt) := Rw4.cell 11 rfl; have qw4_12 : w4.cell? ⟨w.heap.size, 12, none⟩ = some (.slice da dl dc) := Rw4.cell 12 rfl; have qw4_13 : w4.cell? ⟨w.heap.size, 13, none⟩ = some (.int .i64 ph) := Rw4.cell 13 rfl; have qw4_14 : w4.cell? ⟨w.heap.size, 14, none⟩ = some (.int .i64 fn) := Rw4.cell 14 rfl; have qw4_15 : w4.cell? ⟨w.heap.size, 15, none⟩ = some (.int .i64 m.a) := Rw4.cell 15 rfl; have qw4_16 : w4.cell? ⟨w.heap.size, 16, none⟩ = some (.int .i64 m.b) := Rw4.cell 16 rfl; have qw4_17 : w4.cell? ⟨w.heap.size, 17, none⟩ = some (.int .i64 m.c) := Rw4.cell 17 rfl; have qw4_18 : w4.cell? ⟨w.heap.size, 18, none⟩ = some (.int .i64 m.d) := Rw4.cell 18 rfl; have qw4_19 : w4.cell? ⟨w.heap.size, 19, none⟩ = some (.int .i64 m.x) := Rw4.cell 19 rfl; have qw4_20 : w4.cell? ⟨w.heap.size, 20, none⟩ = some (.int .i64 m.y) := Rw4.cell 20 rfl; have qw4_21 : w4.cell? ⟨w.heap.size, 21, none⟩ = some (.slice ba bl bc) := Rw4.cell 21 rfl; have u4 : Up w w4 := (by (repeat' (first | (with_reducible first | exact Up.refl _ | assumption | refine Up.alloc ?_ _ | refine Up.drew ?_ | refine Up.drewN ?_ _ | refine Up.setCell ?_ ?_ _ | refine Up.call ?_ (by assumption)) | go_size))))))
          go_loop [7] (fun s7 => ∃ j : Nat, j ≤ 6 ∧ s7 = .int .i64 j ∧ Hid (0 < j → fits m.a = true) ∧ Hid (1 < j → fits m.b = true) ∧ Hid (2 < j → fits m.c = true) ∧ Hid (3 < j → fits m.d = true) ∧ Hid (4 < j → fits m.x = true) ∧ Hid (5 < j → fits m.y = true)) (fun s7 => 6 - (intOf s7).toNat)
          case atStart => exact ⟨0, by decide, rfl, Lib.hid (fun h => absurd h (by decide)), Lib.hid (fun h => absurd h (by decide)), Lib.hid (fun h => absurd h (by decide)), Lib.hid (fun h => absurd h (by decide)), Lib.hid (fun h => absurd h (by decide)), Lib.hid (fun h => absurd h (by decide))⟩
          case round =>
            obtain ⟨j, hj, rfl, HM0, HM1, HM2, HM3, HM4, HM5⟩ := hrel
            rcases (show j = 0 ∨ j = 1 ∨ j = 2 ∨ j = 3 ∨ j = 4 ∨ j = 5 ∨ j = 6 by omega) with rfl | rfl | rfl | rfl | rfl | rfl | rfl
            · obtain ⟨b1, q1⟩ : ∃ b, fits m.a = b := ⟨_, rfl⟩
              cases b1
              · have HTL := Lib.hid (show tL = false by rw [← HLT.out]; exact letters_bad (by simp [q1]))
                have H := Lib.hid (show itemB true true tL tN tP tS tM 4 fn pl bl = false by rw [HTL.out]; simp [itemB])
                go_wp2_with (go_at_call 25; ((with_reducible refine (Rfix.fits_calls _ _).mono ?_); rintro e w' ⟨rfl, rfl⟩))
                go_ret
                exact ⟨by rw [H.out]; rfl, by (repeat' (first | (with_reducible first | exact Up.refl _ | assumption | refine Up.alloc ?_ _ | refine Up.drew ?_ | refine Up.drewN ?_ _ | refine Up.setCell ?_ ?_ _ | refine Up.call ?_ (by assumption)) | go_size))⟩
              · have HG := Lib.hid q1
                go_wp2_with (go_at_call 25; ((with_reducible refine (Rfix.fits_calls _ _).mono ?_); rintro e w' ⟨rfl, rfl⟩))
                go_roundw
                case rel => exact ⟨1, by decide, by go_num, Lib.hid (fun _ => HG.out), Lib.hid (fun h => absurd h (by decide)), Lib.hid (fun h => absurd h (by decide)), Lib.hid (fun h => absurd h (by decide)), Lib.hid (fun h => absurd h (by decide)), Lib.hid (fun h => absurd h (by decide))⟩
                case measure => simp [intOf]
            · obtain ⟨b1, q1⟩ : ∃ b, fits m.b = b := ⟨_, rfl⟩
              cases b1
              · have HTL := Lib.hid (show tL = false by rw [← HLT.out]; exact letters_bad (by simp [q1]))
                have H := Lib.hid (show itemB true true tL tN tP tS tM 4 fn pl bl = false by rw [HTL.out]; simp [itemB])
                go_wp2_with (go_at_call 25; ((with_reducible refine (Rfix.fits_calls _ _).mono ?_); rintro e w' ⟨rfl, rfl⟩))
                go_ret
                exact ⟨by rw [H.out]; rfl, by (repeat' (first | (with_reducible first | exact Up.refl _ | assumption | refine Up.alloc ?_ _ | refine Up.drew ?_ | refine Up.drewN ?_ _ | refine Up.setCell ?_ ?_ _ | refine Up.call ?_ (by assumption)) | go_size))⟩
              · have HG := Lib.hid q1
                go_wp2_with (go_at_call 25; ((with_reducible refine (Rfix.fits_calls _ _).mono ?_); rintro e w' ⟨rfl, rfl⟩))
                go_roundw
                case rel => exact ⟨2, by decide, by go_num, Lib.hid (fun _ => HM0.out (by decide)), Lib.hid (fun _ => HG.out), Lib.hid (fun h => absurd h (by decide)), Lib.hid (fun h => absurd h (by decide)), Lib.hid (fun h => absurd h (by decide)), Lib.hid (fun h => absurd h (by decide))⟩
                case measure => simp [intOf]
            · obtain ⟨b1, q1⟩ : ∃ b, fits m.c = b := ⟨_, rfl⟩
              cases b1
              · have HTL := Lib.hid (show tL = false by rw [← HLT.out]; exact letters_bad (by simp [q1]))
                have H := Lib.hid (show itemB true true tL tN tP tS tM 4 fn pl bl = false by rw [HTL.out]; simp [itemB])
                go_wp2_with (go_at_call 25; ((with_reducible refine (Rfix.fits_calls _ _).mono ?_); rintro e w' ⟨rfl, rfl⟩))
                go_ret
                exact ⟨by rw [H.out]; rfl, by (repeat' (first | (with_reducible first | exact Up.refl _ | assumption | refine Up.alloc ?_ _ | refine Up.drew ?_ | refine Up.drewN ?_ _ | refine Up.setCell ?_ ?_ _ | refine Up.call ?_ (by assumption)) | go_size))⟩
              · have HG := Lib.hid q1
                go_wp2_with (go_at_call 25; ((with_reducible refine (Rfix.fits_calls _ _).mono ?_); rintro e w' ⟨rfl, rfl⟩))
                go_roundw
                case rel => exact ⟨3, by decide, by go_num, Lib.hid (fun _ => HM0.out (by decide)), Lib.hid (fun _ => HM1.out (by decide)), Lib.hid (fun _ => HG.out), Lib.hid (fun h => absurd h (by decide)), Lib.hid (fun h => absurd h (by decide)), Lib.hid (fun h => absurd h (by decide))⟩
                case measure => simp [intOf]
            · obtain ⟨b1, q1⟩ : ∃ b, fits m.d = b := ⟨_, rfl⟩
              cases b1
              · have HTL := Lib.hid (show tL = false by rw [← HLT.out]; exact letters_bad (by simp [q1]))
                have H := Lib.hid (show itemB true true tL tN tP tS tM 4 fn pl bl = false by rw [HTL.out]; simp [itemB])
                go_wp2_with (go_at_call 25; ((with_reducible refine (Rfix.fits_calls _ _).mono ?_); rintro e w' ⟨rfl, rfl⟩))
                go_ret
                exact ⟨by rw [H.out]; rfl, by (repeat' (first | (with_reducible first | exact Up.refl _ | assumption | refine Up.alloc ?_ _ | refine Up.drew ?_ | refine Up.drewN ?_ _ | refine Up.setCell ?_ ?_ _ | refine Up.call ?_ (by assumption)) | go_size))⟩
              · have HG := Lib.hid q1
                go_wp2_with (go_at_call 25; ((with_reducible refine (Rfix.fits_calls _ _).mono ?_); rintro e w' ⟨rfl, rfl⟩))
                go_roundw
                case rel => exact ⟨4, by decide, by go_num, Lib.hid (fun _ => HM0.out (by decide)), Lib.hid (fun _ => HM1.out (by decide)), Lib.hid (fun _ => HM2.out (by decide)), Lib.hid (fun _ => HG.out), Lib.hid (fun h => absurd h (by decide)), Lib.hid (fun h => absurd h (by decide))⟩
                case measure => simp [intOf]
            · obtain ⟨b1, q1⟩ : ∃ b, fits m.x = b := ⟨_, rfl⟩
              cases b1
              · have HTL := Lib.hid (show tL = false by rw [← HLT.out]; exact letters_bad (by simp [q1]))
                have H := Lib.hid (show itemB true true tL tN tP tS tM 4 fn pl bl = false by rw [HTL.out]; simp [itemB])
                go_wp2_with (go_at_call 25; ((with_reducible refine (Rfix.fits_calls _ _).mono ?_); rintro e w' ⟨rfl, rfl⟩))
                go_ret
                exact ⟨by rw [H.out]; rfl, by (repeat' (first | (with_reducible first | exact Up.refl _ | assumption | refine Up.alloc ?_ _ | refine Up.drew ?_ | refine Up.drewN ?_ _ | refine Up.setCell ?_ ?_ _ | refine Up.call ?_ (by assumption)) | go_size))⟩
              · have HG := Lib.hid q1
                go_wp2_with (go_at_call 25; ((with_reducible refine (Rfix.fits_calls _ _).mono ?_); rintro e w' ⟨rfl, rfl⟩))
                go_roundw
                case rel => exact ⟨5, by decide, by go_num, Lib.hid (fun _ => HM0.out (by decide)), Lib.hid (fun _ => HM1.out (by decide)), Lib.hid (fun _ => HM2.out (by decide)), Lib.hid (fun _ => HM3.out (by decide)), Lib.hid (fun _ => HG.out), Lib.hid (fun h => absurd h (by decide))⟩
                case measure => simp [intOf]
            · obtain ⟨b1, q1⟩ : ∃ b, fits m.y = b := ⟨_, rfl⟩
              cases b1
              · have HTL := Lib.hid (show tL = false by rw [← HLT.out]; exact letters_bad (by simp [q1]))
                have H := Lib.hid (show itemB true true tL tN tP tS tM 4 fn pl bl = false by rw [HTL.out]; simp [itemB])
                go_wp2_with (go_at_call 25; ((with_reducible refine (Rfix.fits_calls _ _).mono ?_); rintro e w' ⟨rfl, rfl⟩))
                go_ret
                exact ⟨by rw [H.out]; rfl, by (repeat' (first | (with_reducible first | exact Up.refl _ | assumption | refine Up.alloc ?_ _ | refine Up.drew ?_ | refine Up.drewN ?_ _ | refine Up.setCell ?_ ?_ _ | refine Up.call ?_ (by assumption)) | go_size))⟩
              · have HG := Lib.hid q1
                go_wp2_with (go_at_call 25; ((with_reducible refine (Rfix.fits_calls _ _).mono ?_); rintro e w' ⟨rfl, rfl⟩))
                go_roundw
                case rel => exact ⟨6, by decide, by go_num, Lib.hid (fun _ => HM0.out (by decide)), Lib.hid (fun _ => HM1.out (by decide)), Lib.hid (fun _ => HM2.out (by decide)), Lib.hid (fun _ => HM3.out (by decide)), Lib.hid (fun _ => HM4.out (by decide)), Lib.hid (fun _ => HG.out)⟩
                case measure => simp [intOf]
            · have HALL := Lib.hid (show ((lM m).any fun n => !fits n) = false by simp [lM, HM0.out (by decide), HM1.out (by decide), HM2.out (by decide), HM3.out (by decide), HM4.out (by decide), HM5.out (by decide)])
              obtain ⟨b_g1, g1⟩ : ∃ b, (decide (0 ≤ fn)) = b := ⟨_, rfl⟩
              cases b_g1
              · have HTL := Lib.hid (show tL = false by rw [← HLT.out]; exact letters_val HALL.out (by simp [g1]))
                have H := Lib.hid (show itemB true true tL tN tP tS tM 4 fn pl bl = false by rw [HTL.out]; simp [itemB])
                go_wp2
                go_ret
                exact ⟨by rw [H.out]; rfl, by (repeat' (first | (with_reducible first | exact Up.refl _ | assumption | refine Up.alloc ?_ _ | refine Up.drew ?_ | refine Up.drewN ?_ _ | refine Up.setCell ?_ ?_ _ | refine Up.call ?_ (by assumption)) | go_size))⟩
              obtain ⟨b_g2, g2⟩ : ∃ b, (decide (fn ≤ 13)) = b := ⟨_, rfl⟩
              cases b_g2
              · have HTL := Lib.hid (show tL = false by rw [← HLT.out]; exact letters_val HALL.out (by simp [g1, g2]))
                have H := Lib.hid (show itemB true true tL tN tP tS tM 4 fn pl bl = false by rw [HTL.out]; simp [itemB])
                go_wp2
                go_ret
                exact ⟨by rw [H.out]; rfl, by (repeat' (first | (with_reducible first | exact Up.refl _ | assumption | refine Up.alloc ?_ _ | refine Up.drew ?_ | refine Up.drewN ?_ _ | refine Up.setCell ?_ ?_ _ | refine Up.call ?_ (by assumption)) | go_size))⟩
              obtain ⟨b_g3, g3⟩ : ∃ b, (decide ((1 : Int) ≤ (bl : Int))) = b := ⟨_, rfl⟩
              cases b_g3
              · have HTL := Lib.hid (show tL = false by rw [← HLT.out]; exact letters_val HALL.out (by simp [g1, g2, g3]))
                have H := Lib.hid (show itemB true true tL tN tP tS tM 4 fn pl bl = false by rw [HTL.out]; simp [itemB])
                go_wp2
                go_ret
                exact ⟨by rw [H.out]; rfl, by (repeat' (first | (with_reducible first | exact Up.refl _ | assumption | refine Up.alloc ?_ _ | refine Up.drew ?_ | refine Up.drewN ?_ _ | refine Up.setCell ?_ ?_ _ | refine Up.call ?_ (by assumption)) | go_size))⟩
              obtain ⟨b_g4, g4⟩ : ∃ b, (decide ((bl : Int) ≤ 65535)) = b := ⟨_, rfl⟩
              cases b_g4
              · have HTL := Lib.hid (show tL = false by rw [← HLT.out]; exact letters_val HALL.out (by simp [g1, g2, g3, g4]))
                have H := Lib.hid (show itemB true true tL tN tP tS tM 4 fn pl bl = false by rw [HTL.out]; simp [itemB])
                go_wp2
                go_ret
                exact ⟨by rw [H.out]; rfl, by (repeat' (first | (with_reducible first | exact Up.refl _ | assumption | refine Up.alloc ?_ _ | refine Up.drew ?_ | refine Up.drewN ?_ _ | refine Up.setCell ?_ ?_ _ | refine Up.call ?_ (by assumption)) | go_size))⟩
              obtain ⟨b_g5, g5⟩ : ∃ b, ((pl : Int) == 0) = b := ⟨_, rfl⟩
              cases b_g5
              · have HTL := Lib.hid (show tL = true by rw [← HLT.out]; exact letters_val HALL.out (by simp [g1, g2, g3, g4]))
                have H := Lib.hid (show itemB true true tL tN tP tS tM 4 fn pl bl = false by rw [HTL.out]; simp [itemB, g5])
                go_wp2
                go_ret
                exact ⟨by rw [H.out]; rfl, by (repeat' (first | (with_reducible first | exact Up.refl _ | assumption | refine Up.alloc ?_ _ | refine Up.drew ?_ | refine Up.drewN ?_ _ | refine Up.setCell ?_ ?_ _ | refine Up.call ?_ (by assumption)) | go_size))⟩
              have HTL := Lib.hid (show tL = true by rw [← HLT.out]; exact letters_val HALL.out (by simp [g1, g2, g3, g4]))
              have H := Lib.hid (show itemB true true tL tN tP tS tM 4 fn pl bl = tN by rw [HTL.out]; simp [itemB, g5])
              go_wp2
              go_ret
              exact ⟨by rw [H.out]; rfl, by (repeat' (first | (with_reducible first | exact Up.refl _ | assumption | refine Up.alloc ?_ _ | refine Up.drew ?_ | refine Up.drewN ?_ _ | refine Up.setCell ?_ ?_ _ | refine Up.call ?_ (by assumption)) | go_size))⟩
        have e4 : (k == 4) = false := by simpa using hk
        obtain ⟨b_k1, k1⟩ : ∃ b, decide (k < 1) = b := ⟨_, rfl⟩
        cases b_k1
        rotate_left
        · have H := Lib.hid (show itemB true true tL tN tP tS tM k fn pl bl = false by have h1 : k < 1 := (by simpa using k1); have a1 : ¬ k = 1 := (by omega); have a2 : ¬ k = 2 := (by omega); have a3 : ¬ k = 3 := (by omega); simp [itemB, hk, a1, a2, a3])
          go_wp2_with (first
            | (go_at_call 24; ((with_reducible refine (samePen_calls wd cp jn mt ph da dl dc _).mono ?_); rw [HNO.out]; rintro E w4 ⟨rfl, hu4⟩; have z4 := hu4.size; (try simp at z4); have Rw4 : Row w4 w.heap.size #[.int .i64 k, .slice pa pl pc, .int .i64 1, .int .i64 p0, .int .i64 p1, .int .i64 p2, .int .i64 p3, .slice ca cl cc, .int .i64 wd, .int .i64 cp, .int .i64 jn, .int .i64 mt, .slice da dl dc, .int .i64 ph, .int .i64 fn, .int .i64 m.a, .int .i64 m.b, .int .i64 m.c, .int .i64 m.d, .int .i64 m.x, .int .i64 m.y, .slice ba bl bc] := Row.up (show Row _ w.heap.size #[.int .i64 k, .slice pa pl pc, .int .i64 1, .int .i64 p0, .int .i64 p1, .int .i64 p2, .int .i64 p3, .slice ca cl cc, .int .i64 wd, .int .i64 cp, .int .i64 jn, .int .i64 mt, .slice da dl dc, .int .i64 ph, .int .i64 fn, .int .i64 m.a, .int .i64 m.b, .int .i64 m.c, .int .i64 m.d, .int .i64 m.x, .int .i64 m.y, .slice ba bl bc] by (repeat' (with_reducible first | assumption | (refine Row.at _ _ ?_; (simp; done)) | refine Row.alloc ?_ _ | refine Row.drew ?_ | refine Row.drewN ?_ _ | refine Row.other ?_ (by first | (simp; done) | (simp; omega) | omega) _ | refine Row.up ?_ (by assumption) | refine Row.chg ?_ (by assumption) (by first | (simp; done) | (simp; omega))))) hu4; have lw4 := Rw4.lt; have qw4_0 : w4.cell? ⟨w.heap.size, 0, none⟩ = some (.int .i64 k) := Rw4.cell 0 rfl; have qw4_1 : w4.cell? ⟨w.heap.size, 1, none⟩ = some (.slice pa pl pc) := Rw4.cell 1 rfl; have qw4_7 : w4.cell? ⟨w.heap.size, 7, none⟩ = some (.slice ca cl cc) := Rw4.cell 7 rfl; have qw4_8 : w4.cell? ⟨w.heap.size, 8, none⟩ = some (.int .i64 wd) := Rw4.cell 8 rfl; have qw4_9 : w4.cell? ⟨w.heap.size, 9, none⟩ = some (.int .i64 cp) := Rw4.cell 9 rfl; have qw4_10 : w4.cell? ⟨w.heap.size, 10, none⟩ = some (.int .i64 jn) := Rw4.cell 10 rfl; have qw4_11 : w4.cell? ⟨w.heap.size, 11, none⟩ = some (.int .i64 mt) := Rw4.cell 11 rfl; have qw4_12 : w4.cell? ⟨w.heap.size, 12, none⟩ = some (.slice da dl dc) := Rw4.cell 12 rfl; have qw4_13 : w4.cell? ⟨w.heap.size, 13, none⟩ = some (.int .i64 ph) := Rw4.cell 13 rfl; have qw4_14 : w4.cell? ⟨w.heap.size, 14, none⟩ = some (.int .i64 fn) := Rw4.cell 14 rfl; have qw4_15 : w4.cell? ⟨w.heap.size, 15, none⟩ = some (.int .i64 m.a) := Rw4.cell 15 rfl; have qw4_16 : w4.cell? ⟨w.heap.size, 16, none⟩ = some (.int .i64 m.b) := Rw4.cell 16 rfl; have qw4_17 : w4.cell? ⟨w.heap.size, 17, none⟩ = some (.int .i64 m.c) := Rw4.cell 17 rfl; have qw4_18 : w4.cell? ⟨w.heap.size, 18, none⟩ = some (.int .i64 m.d) := Rw4.cell 18 rfl; have qw4_19 : w4.cell? ⟨w.heap.size, 19, none⟩ = some (.int .i64 m.x) := Rw4.cell 19 rfl; have qw4_20 : w4.cell? ⟨w.heap.size, 20, none⟩ = some (.int .i64 m.y) := Rw4.cell 20 rfl; have qw4_21 : w4.cell? ⟨w.heap.size, 21, none⟩ = some (.slice ba bl bc) := Rw4.cell 21 rfl; have u4 : Up w w4 := (by (repeat' (first | (with_reducible first | exact Up.refl _ | assumption | refine Up.alloc ?_ _ | refine Up.drew ?_ | refine Up.drewN ?_ _ | refine Up.setCell ?_ ?_ _ | refine Up.call ?_ (by assumption)) | go_size))))))
          go_ret
          exact ⟨by rw [H.out]; rfl, by (repeat' (first | (with_reducible first | exact Up.refl _ | assumption | refine Up.alloc ?_ _ | refine Up.drew ?_ | refine Up.drewN ?_ _ | refine Up.setCell ?_ ?_ _ | refine Up.call ?_ (by assumption)) | go_size))⟩
        obtain ⟨b_k3, k3⟩ : ∃ b, decide (3 < k) = b := ⟨_, rfl⟩
        cases b_k3
        rotate_left
        · have H := Lib.hid (show itemB true true tL tN tP tS tM k fn pl bl = false by have h1 : 3 < k := (by simpa using k3); have a1 : ¬ k = 1 := (by omega); have a2 : ¬ k = 2 := (by omega); have a3 : ¬ k = 3 := (by omega); simp [itemB, hk, a1, a2, a3])
          go_wp2_with (first
            | (go_at_call 24; ((with_reducible refine (samePen_calls wd cp jn mt ph da dl dc _).mono ?_); rw [HNO.out]; rintro E w4 ⟨rfl, hu4⟩; have z4 := hu4.size; (try simp at z4); have Rw4 : Row w4 w.heap.size #[.int .i64 k, .slice pa pl pc, .int .i64 1, .int .i64 p0, .int .i64 p1, .int .i64 p2, .int .i64 p3, .slice ca cl cc, .int .i64 wd, .int .i64 cp, .int .i64 jn, .int .i64 mt, .slice da dl dc, .int .i64 ph, .int .i64 fn, .int .i64 m.a, .int .i64 m.b, .int .i64 m.c, .int .i64 m.d, .int .i64 m.x, .int .i64 m.y, .slice ba bl bc] := Row.up (show Row _ w.heap.size #[.int .i64 k, .slice pa pl pc, .int .i64 1, .int .i64 p0, .int .i64 p1, .int .i64 p2, .int .i64 p3, .slice ca cl cc, .int .i64 wd, .int .i64 cp, .int .i64 jn, .int .i64 mt, .slice da dl dc, .int .i64 ph, .int .i64 fn, .int .i64 m.a, .int .i64 m.b, .int .i64 m.c, .int .i64 m.d, .int .i64 m.x, .int .i64 m.y, .slice ba bl bc] by (repeat' (with_reducible first | assumption | (refine Row.at _ _ ?_; (simp; done)) | refine Row.alloc ?_ _ | refine Row.drew ?_ | refine Row.drewN ?_ _ | refine Row.other ?_ (by first | (simp; done) | (simp; omega) | omega) _ | refine Row.up ?_ (by assumption) | refine Row.chg ?_ (by assumption) (by first | (simp; done) | (simp; omega))))) hu4; have lw4 := Rw4.lt; have qw4_0 : w4.cell? ⟨w.heap.size, 0, none⟩ = some (.int .i64 k) := Rw4.cell 0 rfl; have qw4_1 : w4.cell? ⟨w.heap.size, 1, none⟩ = some (.slice pa pl pc) := Rw4.cell 1 rfl; have qw4_7 : w4.cell? ⟨w.heap.size, 7, none⟩ = some (.slice ca cl cc) := Rw4.cell 7 rfl; have qw4_8 : w4.cell? ⟨w.heap.size, 8, none⟩ = some (.int .i64 wd) := Rw4.cell 8 rfl; have qw4_9 : w4.cell? ⟨w.heap.size, 9, none⟩ = some (.int .i64 cp) := Rw4.cell 9 rfl; have qw4_10 : w4.cell? ⟨w.heap.size, 10, none⟩ = some (.int .i64 jn) := Rw4.cell 10 rfl; have qw4_11 : w4.cell? ⟨w.heap.size, 11, none⟩ = some (.int .i64 mt) := Rw4.cell 11 rfl; have qw4_12 : w4.cell? ⟨w.heap.size, 12, none⟩ = some (.slice da dl dc) := Rw4.cell 12 rfl; have qw4_13 : w4.cell? ⟨w.heap.size, 13, none⟩ = some (.int .i64 ph) := Rw4.cell 13 rfl; have qw4_14 : w4.cell? ⟨w.heap.size, 14, none⟩ = some (.int .i64 fn) := Rw4.cell 14 rfl; have qw4_15 : w4.cell? ⟨w.heap.size, 15, none⟩ = some (.int .i64 m.a) := Rw4.cell 15 rfl; have qw4_16 : w4.cell? ⟨w.heap.size, 16, none⟩ = some (.int .i64 m.b) := Rw4.cell 16 rfl; have qw4_17 : w4.cell? ⟨w.heap.size, 17, none⟩ = some (.int .i64 m.c) := Rw4.cell 17 rfl; have qw4_18 : w4.cell? ⟨w.heap.size, 18, none⟩ = some (.int .i64 m.d) := Rw4.cell 18 rfl; have qw4_19 : w4.cell? ⟨w.heap.size, 19, none⟩ = some (.int .i64 m.x) := Rw4.cell 19 rfl; have qw4_20 : w4.cell? ⟨w.heap.size, 20, none⟩ = some (.int .i64 m.y) := Rw4.cell 20 rfl; have qw4_21 : w4.cell? ⟨w.heap.size, 21, none⟩ = some (.slice ba bl bc) := Rw4.cell 21 rfl; have u4 : Up w w4 := (by (repeat' (first | (with_reducible first | exact Up.refl _ | assumption | refine Up.alloc ?_ _ | refine Up.drew ?_ | refine Up.drewN ?_ _ | refine Up.setCell ?_ ?_ _ | refine Up.call ?_ (by assumption)) | go_size))))))
          go_ret
          exact ⟨by rw [H.out]; rfl, by (repeat' (first | (with_reducible first | exact Up.refl _ | assumption | refine Up.alloc ?_ _ | refine Up.drew ?_ | refine Up.drewN ?_ _ | refine Up.setCell ?_ ?_ _ | refine Up.call ?_ (by assumption)) | go_size))⟩
        obtain ⟨b_h2, h2⟩ : ∃ b, (fn != 0) = b := ⟨_, rfl⟩
        cases b_h2
        rotate_left
        · have H := Lib.hid (show (itemB true true tL tN tP tS tM k fn pl bl) = false by simp only [itemB, hk, h2] <;> simp)
          go_wp2_with (first
            | (go_at_call 24; ((with_reducible refine (samePen_calls wd cp jn mt ph da dl dc _).mono ?_); rw [HNO.out]; rintro E w4 ⟨rfl, hu4⟩; have z4 := hu4.size; (try simp at z4); have Rw4 : Row w4 w.heap.size #[.int .i64 k, .slice pa pl pc, .int .i64 1, .int .i64 p0, .int .i64 p1, .int .i64 p2, .int .i64 p3, .slice ca cl cc, .int .i64 wd, .int .i64 cp, .int .i64 jn, .int .i64 mt, .slice da dl dc, .int .i64 ph, .int .i64 fn, .int .i64 m.a, .int .i64 m.b, .int .i64 m.c, .int .i64 m.d, .int .i64 m.x, .int .i64 m.y, .slice ba bl bc] := Row.up (show Row _ w.heap.size #[.int .i64 k, .slice pa pl pc, .int .i64 1, .int .i64 p0, .int .i64 p1, .int .i64 p2, .int .i64 p3, .slice ca cl cc, .int .i64 wd, .int .i64 cp, .int .i64 jn, .int .i64 mt, .slice da dl dc, .int .i64 ph, .int .i64 fn, .int .i64 m.a, .int .i64 m.b, .int .i64 m.c, .int .i64 m.d, .int .i64 m.x, .int .i64 m.y, .slice ba bl bc] by (repeat' (with_reducible first | assumption | (refine Row.at _ _ ?_; (simp; done)) | refine Row.alloc ?_ _ | refine Row.drew ?_ | refine Row.drewN ?_ _ | refine Row.other ?_ (by first | (simp; done) | (simp; omega) | omega) _ | refine Row.up ?_ (by assumption) | refine Row.chg ?_ (by assumption) (by first | (simp; done) | (simp; omega))))) hu4; have lw4 := Rw4.lt; have qw4_0 : w4.cell? ⟨w.heap.size, 0, none⟩ = some (.int .i64 k) := Rw4.cell 0 rfl; have qw4_1 : w4.cell? ⟨w.heap.size, 1, none⟩ = some (.slice pa pl pc) := Rw4.cell 1 rfl; have qw4_7 : w4.cell? ⟨w.heap.size, 7, none⟩ = some (.slice ca cl cc) := Rw4.cell 7 rfl; have qw4_8 : w4.cell? ⟨w.heap.size, 8, none⟩ = some (.int .i64 wd) := Rw4.cell 8 rfl; have qw4_9 : w4.cell? ⟨w.heap.size, 9, none⟩ = some (.int .i64 cp) := Rw4.cell 9 rfl; have qw4_10 : w4.cell? ⟨w.heap.size, 10, none⟩ = some (.int .i64 jn) := Rw4.cell 10 rfl; have qw4_11 : w4.cell? ⟨w.heap.size, 11, none⟩ = some (.int .i64 mt) := Rw4.cell 11 rfl; have qw4_12 : w4.cell? ⟨w.heap.size, 12, none⟩ = some (.slice da dl dc) := Rw4.cell 12 rfl; have qw4_13 : w4.cell? ⟨w.heap.size, 13, none⟩ = some (.int .i64 ph) := Rw4.cell 13 rfl; have qw4_14 : w4.cell? ⟨w.heap.size, 14, none⟩ = some (.int .i64 fn) := Rw4.cell 14 rfl; have qw4_15 : w4.cell? ⟨w.heap.size, 15, none⟩ = some (.int .i64 m.a) := Rw4.cell 15 rfl; have qw4_16 : w4.cell? ⟨w.heap.size, 16, none⟩ = some (.int .i64 m.b) := Rw4.cell 16 rfl; have qw4_17 : w4.cell? ⟨w.heap.size, 17, none⟩ = some (.int .i64 m.c) := Rw4.cell 17 rfl; have qw4_18 : w4.cell? ⟨w.heap.size, 18, none⟩ = some (.int .i64 m.d) := Rw4.cell 18 rfl; have qw4_19 : w4.cell? ⟨w.heap.size, 19, none⟩ = some (.int .i64 m.x) := Rw4.cell 19 rfl; have qw4_20 : w4.cell? ⟨w.heap.size, 20, none⟩ = some (.int .i64 m.y) := Rw4.cell 20 rfl; have qw4_21 : w4.cell? ⟨w.heap.size, 21, none⟩ = some (.slice ba bl bc) := Rw4.cell 21 rfl; have u4 : Up w w4 := (by (repeat' (first | (with_reducible first | exact Up.refl _ | assumption | refine Up.alloc ?_ _ | refine Up.drew ?_ | refine Up.drewN ?_ _ | refine Up.setCell ?_ ?_ _ | refine Up.call ?_ (by assumption)) | go_size))))))
          go_ret
          exact ⟨by rw [H.out]; rfl, by (repeat' (first | (with_reducible first | exact Up.refl _ | assumption | refine Up.alloc ?_ _ | refine Up.drew ?_ | refine Up.drewN ?_ _ | refine Up.setCell ?_ ?_ _ | refine Up.call ?_ (by assumption)) | go_size))⟩
        cases tM
        · have H := Lib.hid (show (itemB true true tL tN tP tS false k fn pl bl) = false by simp only [itemB, hk, h2] <;> simp)
          go_wp2_with (first
            | (go_at_call 24; ((with_reducible refine (samePen_calls wd cp jn mt ph da dl dc _).mono ?_); rw [HNO.out]; rintro E w4 ⟨rfl, hu4⟩; have z4 := hu4.size; (try simp at z4); have Rw4 : Row w4 w.heap.size #[.int .i64 k, .slice pa pl pc, .int .i64 1, .int .i64 p0, .int .i64 p1, .int .i64 p2, .int .i64 p3, .slice ca cl cc, .int .i64 wd, .int .i64 cp, .int .i64 jn, .int .i64 mt, .slice da dl dc, .int .i64 ph, .int .i64 fn, .int .i64 m.a, .int .i64 m.b, .int .i64 m.c, .int .i64 m.d, .int .i64 m.x, .int .i64 m.y, .slice ba bl bc] := Row.up (show Row _ w.heap.size #[.int .i64 k, .slice pa pl pc, .int .i64 1, .int .i64 p0, .int .i64 p1, .int .i64 p2, .int .i64 p3, .slice ca cl cc, .int .i64 wd, .int .i64 cp, .int .i64 jn, .int .i64 mt, .slice da dl dc, .int .i64 ph, .int .i64 fn, .int .i64 m.a, .int .i64 m.b, .int .i64 m.c, .int .i64 m.d, .int .i64 m.x, .int .i64 m.y, .slice ba bl bc] by (repeat' (with_reducible first | assumption | (refine Row.at _ _ ?_; (simp; done)) | refine Row.alloc ?_ _ | refine Row.drew ?_ | refine Row.drewN ?_ _ | refine Row.other ?_ (by first | (simp; done) | (simp; omega) | omega) _ | refine Row.up ?_ (by assumption) | refine Row.chg ?_ (by assumption) (by first | (simp; done) | (simp; omega))))) hu4; have lw4 := Rw4.lt; have qw4_0 : w4.cell? ⟨w.heap.size, 0, none⟩ = some (.int .i64 k) := Rw4.cell 0 rfl; have qw4_1 : w4.cell? ⟨w.heap.size, 1, none⟩ = some (.slice pa pl pc) := Rw4.cell 1 rfl; have qw4_7 : w4.cell? ⟨w.heap.size, 7, none⟩ = some (.slice ca cl cc) := Rw4.cell 7 rfl; have qw4_8 : w4.cell? ⟨w.heap.size, 8, none⟩ = some (.int .i64 wd) := Rw4.cell 8 rfl; have qw4_9 : w4.cell? ⟨w.heap.size, 9, none⟩ = some (.int .i64 cp) := Rw4.cell 9 rfl; have qw4_10 : w4.cell? ⟨w.heap.size, 10, none⟩ = some (.int .i64 jn) := Rw4.cell 10 rfl; have qw4_11 : w4.cell? ⟨w.heap.size, 11, none⟩ = some (.int .i64 mt) := Rw4.cell 11 rfl; have qw4_12 : w4.cell? ⟨w.heap.size, 12, none⟩ = some (.slice da dl dc) := Rw4.cell 12 rfl; have qw4_13 : w4.cell? ⟨w.heap.size, 13, none⟩ = some (.int .i64 ph) := Rw4.cell 13 rfl; have qw4_14 : w4.cell? ⟨w.heap.size, 14, none⟩ = some (.int .i64 fn) := Rw4.cell 14 rfl; have qw4_15 : w4.cell? ⟨w.heap.size, 15, none⟩ = some (.int .i64 m.a) := Rw4.cell 15 rfl; have qw4_16 : w4.cell? ⟨w.heap.size, 16, none⟩ = some (.int .i64 m.b) := Rw4.cell 16 rfl; have qw4_17 : w4.cell? ⟨w.heap.size, 17, none⟩ = some (.int .i64 m.c) := Rw4.cell 17 rfl; have qw4_18 : w4.cell? ⟨w.heap.size, 18, none⟩ = some (.int .i64 m.d) := Rw4.cell 18 rfl; have qw4_19 : w4.cell? ⟨w.heap.size, 19, none⟩ = some (.int .i64 m.x) := Rw4.cell 19 rfl; have qw4_20 : w4.cell? ⟨w.heap.size, 20, none⟩ = some (.int .i64 m.y) := Rw4.cell 20 rfl; have qw4_21 : w4.cell? ⟨w.heap.size, 21, none⟩ = some (.slice ba bl bc) := Rw4.cell 21 rfl; have u4 : Up w w4 := (by (repeat' (first | (with_reducible first | exact Up.refl _ | assumption | refine Up.alloc ?_ _ | refine Up.drew ?_ | refine Up.drewN ?_ _ | refine Up.setCell ?_ ?_ _ | refine Up.call ?_ (by assumption)) | go_size))))))
          go_ret
          exact ⟨by rw [H.out]; rfl, by (repeat' (first | (with_reducible first | exact Up.refl _ | assumption | refine Up.alloc ?_ _ | refine Up.drew ?_ | refine Up.drewN ?_ _ | refine Up.setCell ?_ ?_ _ | refine Up.call ?_ (by assumption)) | go_size))⟩
        obtain ⟨b_h3, h3⟩ : ∃ b, (decide (0 < bl)) = b := ⟨_, rfl⟩
        cases b_h3
        rotate_left
        · have H := Lib.hid (show (itemB true true tL tN tP tS true k fn pl bl) = false by simp only [itemB, hk, h2, h3] <;> simp)
          go_wp2_with (first
            | (go_at_call 24; ((with_reducible refine (samePen_calls wd cp jn mt ph da dl dc _).mono ?_); rw [HNO.out]; rintro E w4 ⟨rfl, hu4⟩; have z4 := hu4.size; (try simp at z4); have Rw4 : Row w4 w.heap.size #[.int .i64 k, .slice pa pl pc, .int .i64 1, .int .i64 p0, .int .i64 p1, .int .i64 p2, .int .i64 p3, .slice ca cl cc, .int .i64 wd, .int .i64 cp, .int .i64 jn, .int .i64 mt, .slice da dl dc, .int .i64 ph, .int .i64 fn, .int .i64 m.a, .int .i64 m.b, .int .i64 m.c, .int .i64 m.d, .int .i64 m.x, .int .i64 m.y, .slice ba bl bc] := Row.up (show Row _ w.heap.size #[.int .i64 k, .slice pa pl pc, .int .i64 1, .int .i64 p0, .int .i64 p1, .int .i64 p2, .int .i64 p3, .slice ca cl cc, .int .i64 wd, .int .i64 cp, .int .i64 jn, .int .i64 mt, .slice da dl dc, .int .i64 ph, .int .i64 fn, .int .i64 m.a, .int .i64 m.b, .int .i64 m.c, .int .i64 m.d, .int .i64 m.x, .int .i64 m.y, .slice ba bl bc] by (repeat' (with_reducible first | assumption | (refine Row.at _ _ ?_; (simp; done)) | refine Row.alloc ?_ _ | refine Row.drew ?_ | refine Row.drewN ?_ _ | refine Row.other ?_ (by first | (simp; done) | (simp; omega) | omega) _ | refine Row.up ?_ (by assumption) | refine Row.chg ?_ (by assumption) (by first | (simp; done) | (simp; omega))))) hu4; have lw4 := Rw4.lt; have qw4_0 : w4.cell? ⟨w.heap.size, 0, none⟩ = some (.int .i64 k) := Rw4.cell 0 rfl; have qw4_1 : w4.cell? ⟨w.heap.size, 1, none⟩ = some (.slice pa pl pc) := Rw4.cell 1 rfl; have qw4_7 : w4.cell? ⟨w.heap.size, 7, none⟩ = some (.slice ca cl cc) := Rw4.cell 7 rfl; have qw4_8 : w4.cell? ⟨w.heap.size, 8, none⟩ = some (.int .i64 wd) := Rw4.cell 8 rfl; have qw4_9 : w4.cell? ⟨w.heap.size, 9, none⟩ = some (.int .i64 cp) := Rw4.cell 9 rfl; have qw4_10 : w4.cell? ⟨w.heap.size, 10, none⟩ = some (.int .i64 jn) := Rw4.cell 10 rfl; have qw4_11 : w4.cell? ⟨w.heap.size, 11, none⟩ = some (.int .i64 mt) := Rw4.cell 11 rfl; have qw4_12 : w4.cell? ⟨w.heap.size, 12, none⟩ = some (.slice da dl dc) := Rw4.cell 12 rfl; have qw4_13 : w4.cell? ⟨w.heap.size, 13, none⟩ = some (.int .i64 ph) := Rw4.cell 13 rfl; have qw4_14 : w4.cell? ⟨w.heap.size, 14, none⟩ = some (.int .i64 fn) := Rw4.cell 14 rfl; have qw4_15 : w4.cell? ⟨w.heap.size, 15, none⟩ = some (.int .i64 m.a) := Rw4.cell 15 rfl; have qw4_16 : w4.cell? ⟨w.heap.size, 16, none⟩ = some (.int .i64 m.b) := Rw4.cell 16 rfl; have qw4_17 : w4.cell? ⟨w.heap.size, 17, none⟩ = some (.int .i64 m.c) := Rw4.cell 17 rfl; have qw4_18 : w4.cell? ⟨w.heap.size, 18, none⟩ = some (.int .i64 m.d) := Rw4.cell 18 rfl; have qw4_19 : w4.cell? ⟨w.heap.size, 19, none⟩ = some (.int .i64 m.x) := Rw4.cell 19 rfl; have qw4_20 : w4.cell? ⟨w.heap.size, 20, none⟩ = some (.int .i64 m.y) := Rw4.cell 20 rfl; have qw4_21 : w4.cell? ⟨w.heap.size, 21, none⟩ = some (.slice ba bl bc) := Rw4.cell 21 rfl; have u4 : Up w w4 := (by (repeat' (first | (with_reducible first | exact Up.refl _ | assumption | refine Up.alloc ?_ _ | refine Up.drew ?_ | refine Up.drewN ?_ _ | refine Up.setCell ?_ ?_ _ | refine Up.call ?_ (by assumption)) | go_size))))))
          go_ret
          exact ⟨by rw [H.out]; rfl, by (repeat' (first | (with_reducible first | exact Up.refl _ | assumption | refine Up.alloc ?_ _ | refine Up.drew ?_ | refine Up.drewN ?_ _ | refine Up.setCell ?_ ?_ _ | refine Up.call ?_ (by assumption)) | go_size))⟩
        obtain ⟨b_h4, h4⟩ : ∃ b, ((pl : Int) == 0) = b := ⟨_, rfl⟩
        cases b_h4
        rotate_left
        · have H := Lib.hid (show (itemB true true tL tN tP tS true k fn pl bl) = false by simp only [itemB, hk, h2, h3, h4] <;> simp)
          go_wp2_with (first
            | (go_at_call 24; ((with_reducible refine (samePen_calls wd cp jn mt ph da dl dc _).mono ?_); rw [HNO.out]; rintro E w4 ⟨rfl, hu4⟩; have z4 := hu4.size; (try simp at z4); have Rw4 : Row w4 w.heap.size #[.int .i64 k, .slice pa pl pc, .int .i64 1, .int .i64 p0, .int .i64 p1, .int .i64 p2, .int .i64 p3, .slice ca cl cc, .int .i64 wd, .int .i64 cp, .int .i64 jn, .int .i64 mt, .slice da dl dc, .int .i64 ph, .int .i64 fn, .int .i64 m.a, .int .i64 m.b, .int .i64 m.c, .int .i64 m.d, .int .i64 m.x, .int .i64 m.y, .slice ba bl bc] := Row.up (show Row _ w.heap.size #[.int .i64 k, .slice pa pl pc, .int .i64 1, .int .i64 p0, .int .i64 p1, .int .i64 p2, .int .i64 p3, .slice ca cl cc, .int .i64 wd, .int .i64 cp, .int .i64 jn, .int .i64 mt, .slice da dl dc, .int .i64 ph, .int .i64 fn, .int .i64 m.a, .int .i64 m.b, .int .i64 m.c, .int .i64 m.d, .int .i64 m.x, .int .i64 m.y, .slice ba bl bc] by (repeat' (with_reducible first | assumption | (refine Row.at _ _ ?_; (simp; done)) | refine Row.alloc ?_ _ | refine Row.drew ?_ | refine Row.drewN ?_ _ | refine Row.other ?_ (by first | (simp; done) | (simp; omega) | omega) _ | refine Row.up ?_ (by assumption) | refine Row.chg ?_ (by assumption) (by first | (simp; done) | (simp; omega))))) hu4; have lw4 := Rw4.lt; have qw4_0 : w4.cell? ⟨w.heap.size, 0, none⟩ = some (.int .i64 k) := Rw4.cell 0 rfl; have qw4_1 : w4.cell? ⟨w.heap.size, 1, none⟩ = some (.slice pa pl pc) := Rw4.cell 1 rfl; have qw4_7 : w4.cell? ⟨w.heap.size, 7, none⟩ = some (.slice ca cl cc) := Rw4.cell 7 rfl; have qw4_8 : w4.cell? ⟨w.heap.size, 8, none⟩ = some (.int .i64 wd) := Rw4.cell 8 rfl; have qw4_9 : w4.cell? ⟨w.heap.size, 9, none⟩ = some (.int .i64 cp) := Rw4.cell 9 rfl; have qw4_10 : w4.cell? ⟨w.heap.size, 10, none⟩ = some (.int .i64 jn) := Rw4.cell 10 rfl; have qw4_11 : w4.cell? ⟨w.heap.size, 11, none⟩ = some (.int .i64 mt) := Rw4.cell 11 rfl; have qw4_12 : w4.cell? ⟨w.heap.size, 12, none⟩ = some (.slice da dl dc) := Rw4.cell 12 rfl; have qw4_13 : w4.cell? ⟨w.heap.size, 13, none⟩ = some (.int .i64 ph) := Rw4.cell 13 rfl; have qw4_14 : w4.cell? ⟨w.heap.size, 14, none⟩ = some (.int .i64 fn) := Rw4.cell 14 rfl; have qw4_15 : w4.cell? ⟨w.heap.size, 15, none⟩ = some (.int .i64 m.a) := Rw4.cell 15 rfl; have qw4_16 : w4.cell? ⟨w.heap.size, 16, none⟩ = some (.int .i64 m.b) := Rw4.cell 16 rfl; have qw4_17 : w4.cell? ⟨w.heap.size, 17, none⟩ = some (.int .i64 m.c) := Rw4.cell 17 rfl; have qw4_18 : w4.cell? ⟨w.heap.size, 18, none⟩ = some (.int .i64 m.d) := Rw4.cell 18 rfl; have qw4_19 : w4.cell? ⟨w.heap.size, 19, none⟩ = some (.int .i64 m.x) := Rw4.cell 19 rfl; have qw4_20 : w4.cell? ⟨w.heap.size, 20, none⟩ = some (.int .i64 m.y) := Rw4.cell 20 rfl; have qw4_21 : w4.cell? ⟨w.heap.size, 21, none⟩ = some (.slice ba bl bc) := Rw4.cell 21 rfl; have u4 : Up w w4 := (by (repeat' (first | (with_reducible first | exact Up.refl _ | assumption | refine Up.alloc ?_ _ | refine Up.drew ?_ | refine Up.drewN ?_ _ | refine Up.setCell ?_ ?_ _ | refine Up.call ?_ (by assumption)) | go_size))))))
          go_ret
          exact ⟨by rw [H.out]; rfl, by (repeat' (first | (with_reducible first | exact Up.refl _ | assumption | refine Up.alloc ?_ _ | refine Up.drew ?_ | refine Up.drewN ?_ _ | refine Up.setCell ?_ ?_ _ | refine Up.call ?_ (by assumption)) | go_size))⟩
        cases tS
        · have H := Lib.hid (show (itemB true true tL tN tP false true k fn pl bl) = false by simp only [itemB, hk, h2, h3, h4] <;> simp)
          go_wp2_with (first
            | (go_at_call 24; ((with_reducible refine (samePen_calls wd cp jn mt ph da dl dc _).mono ?_); rw [HNO.out]; rintro E w4 ⟨rfl, hu4⟩; have z4 := hu4.size; (try simp at z4); have Rw4 : Row w4 w.heap.size #[.int .i64 k, .slice pa pl pc, .int .i64 1, .int .i64 p0, .int .i64 p1, .int .i64 p2, .int .i64 p3, .slice ca cl cc, .int .i64 wd, .int .i64 cp, .int .i64 jn, .int .i64 mt, .slice da dl dc, .int .i64 ph, .int .i64 fn, .int .i64 m.a, .int .i64 m.b, .int .i64 m.c, .int .i64 m.d, .int .i64 m.x, .int .i64 m.y, .slice ba bl bc] := Row.up (show Row _ w.heap.size #[.int .i64 k, .slice pa pl pc, .int .i64 1, .int .i64 p0, .int .i64 p1, .int .i64 p2, .int .i64 p3, .slice ca cl cc, .int .i64 wd, .int .i64 cp, .int .i64 jn, .int .i64 mt, .slice da dl dc, .int .i64 ph, .int .i64 fn, .int .i64 m.a, .int .i64 m.b, .int .i64 m.c, .int .i64 m.d, .int .i64 m.x, .int .i64 m.y, .slice ba bl bc] by (repeat' (with_reducible first | assumption | (refine Row.at _ _ ?_; (simp; done)) | refine Row.alloc ?_ _ | refine Row.drew ?_ | refine Row.drewN ?_ _ | refine Row.other ?_ (by first | (simp; done) | (simp; omega) | omega) _ | refine Row.up ?_ (by assumption) | refine Row.chg ?_ (by assumption) (by first | (simp; done) | (simp; omega))))) hu4; have lw4 := Rw4.lt; have qw4_0 : w4.cell? ⟨w.heap.size, 0, none⟩ = some (.int .i64 k) := Rw4.cell 0 rfl; have qw4_1 : w4.cell? ⟨w.heap.size, 1, none⟩ = some (.slice pa pl pc) := Rw4.cell 1 rfl; have qw4_7 : w4.cell? ⟨w.heap.size, 7, none⟩ = some (.slice ca cl cc) := Rw4.cell 7 rfl; have qw4_8 : w4.cell? ⟨w.heap.size, 8, none⟩ = some (.int .i64 wd) := Rw4.cell 8 rfl; have qw4_9 : w4.cell? ⟨w.heap.size, 9, none⟩ = some (.int .i64 cp) := Rw4.cell 9 rfl; have qw4_10 : w4.cell? ⟨w.heap.size, 10, none⟩ = some (.int .i64 jn) := Rw4.cell 10 rfl; have qw4_11 : w4.cell? ⟨w.heap.size, 11, none⟩ = some (.int .i64 mt) := Rw4.cell 11 rfl; have qw4_12 : w4.cell? ⟨w.heap.size, 12, none⟩ = some (.slice da dl dc) := Rw4.cell 12 rfl; have qw4_13 : w4.cell? ⟨w.heap.size, 13, none⟩ = some (.int .i64 ph) := Rw4.cell 13 rfl; have qw4_14 : w4.cell? ⟨w.heap.size, 14, none⟩ = some (.int .i64 fn) := Rw4.cell 14 rfl; have qw4_15 : w4.cell? ⟨w.heap.size, 15, none⟩ = some (.int .i64 m.a) := Rw4.cell 15 rfl; have qw4_16 : w4.cell? ⟨w.heap.size, 16, none⟩ = some (.int .i64 m.b) := Rw4.cell 16 rfl; have qw4_17 : w4.cell? ⟨w.heap.size, 17, none⟩ = some (.int .i64 m.c) := Rw4.cell 17 rfl; have qw4_18 : w4.cell? ⟨w.heap.size, 18, none⟩ = some (.int .i64 m.d) := Rw4.cell 18 rfl; have qw4_19 : w4.cell? ⟨w.heap.size, 19, none⟩ = some (.int .i64 m.x) := Rw4.cell 19 rfl; have qw4_20 : w4.cell? ⟨w.heap.size, 20, none⟩ = some (.int .i64 m.y) := Rw4.cell 20 rfl; have qw4_21 : w4.cell? ⟨w.heap.size, 21, none⟩ = some (.slice ba bl bc) := Rw4.cell 21 rfl; have u4 : Up w w4 := (by (repeat' (first | (with_reducible first | exact Up.refl _ | assumption | refine Up.alloc ?_ _ | refine Up.drew ?_ | refine Up.drewN ?_ _ | refine Up.setCell ?_ ?_ _ | refine Up.call ?_ (by assumption)) | go_size)))))
            | (go_at_call 23; ((with_reducible refine (Path.soundPath_calls (.slice pa pl pc) l _ (HL.out.up (by (repeat' (first | (with_reducible first | exact Up.refl _ | assumption | refine Up.alloc ?_ _ | refine Up.drew ?_ | refine Up.drewN ?_ _ | refine Up.setCell ?_ ?_ _ | refine Up.call ?_ (by assumption)) | go_size)))).pv).mono ?_); rw [HSO.out]; rintro E w5 ⟨rfl, hu5⟩; have z5 := hu5.size; have Rw5 : Row w5 w.heap.size #[.int .i64 k, .slice pa pl pc, .int .i64 1, .int .i64 p0, .int .i64 p1, .int .i64 p2, .int .i64 p3, .slice ca cl cc, .int .i64 wd, .int .i64 cp, .int .i64 jn, .int .i64 mt, .slice da dl dc, .int .i64 ph, .int .i64 fn, .int .i64 m.a, .int .i64 m.b, .int .i64 m.c, .int .i64 m.d, .int .i64 m.x, .int .i64 m.y, .slice ba bl bc] := Row.up (show Row _ w.heap.size #[.int .i64 k, .slice pa pl pc, .int .i64 1, .int .i64 p0, .int .i64 p1, .int .i64 p2, .int .i64 p3, .slice ca cl cc, .int .i64 wd, .int .i64 cp, .int .i64 jn, .int .i64 mt, .slice da dl dc, .int .i64 ph, .int .i64 fn, .int .i64 m.a, .int .i64 m.b, .int .i64 m.c, .int .i64 m.d, .int .i64 m.x, .int .i64 m.y, .slice ba bl bc] by (repeat' (with_reducible first | assumption | (refine Row.at _ _ ?_; (simp; done)) | refine Row.alloc ?_ _ | refine Row.drew ?_ | refine Row.drewN ?_ _ | refine Row.other ?_ (by first | (simp; done) | (simp; omega) | omega) _ | refine Row.up ?_ (by assumption) | refine Row.chg ?_ (by assumption) (by first | (simp; done) | (simp; omega))))) hu5; have lw5 := Rw5.lt; have qw5_0 : w5.cell? ⟨w.heap.size, 0, none⟩ = some (.int .i64 k) := Rw5.cell 0 rfl; have qw5_1 : w5.cell? ⟨w.heap.size, 1, none⟩ = some (.slice pa pl pc) := Rw5.cell 1 rfl; have qw5_7 : w5.cell? ⟨w.heap.size, 7, none⟩ = some (.slice ca cl cc) := Rw5.cell 7 rfl; have qw5_8 : w5.cell? ⟨w.heap.size, 8, none⟩ = some (.int .i64 wd) := Rw5.cell 8 rfl; have qw5_9 : w5.cell? ⟨w.heap.size, 9, none⟩ = some (.int .i64 cp) := Rw5.cell 9 rfl; have qw5_10 : w5.cell? ⟨w.heap.size, 10, none⟩ = some (.int .i64 jn) := Rw5.cell 10 rfl; have qw5_11 : w5.cell? ⟨w.heap.size, 11, none⟩ = some (.int .i64 mt) := Rw5.cell 11 rfl; have qw5_12 : w5.cell? ⟨w.heap.size, 12, none⟩ = some (.slice da dl dc) := Rw5.cell 12 rfl; have qw5_13 : w5.cell? ⟨w.heap.size, 13, none⟩ = some (.int .i64 ph) := Rw5.cell 13 rfl; have qw5_14 : w5.cell? ⟨w.heap.size, 14, none⟩ = some (.int .i64 fn) := Rw5.cell 14 rfl; have qw5_15 : w5.cell? ⟨w.heap.size, 15, none⟩ = some (.int .i64 m.a) := Rw5.cell 15 rfl; have qw5_16 : w5.cell? ⟨w.heap.size, 16, none⟩ = some (.int .i64 m.b) := Rw5.cell 16 rfl; have qw5_17 : w5.cell? ⟨w.heap.size, 17, none⟩ = some (.int .i64 m.c) := Rw5.cell 17 rfl; have qw5_18 : w5.cell? ⟨w.heap.size, 18, none⟩ = some (.int .i64 m.d) := Rw5.cell 18 rfl; have qw5_19 : w5.cell? ⟨w.heap.size, 19, none⟩ = some (.int .i64 m.x) := Rw5.cell 19 rfl; have qw5_20 : w5.cell? ⟨w.heap.size, 20, none⟩ = some (.int .i64 m.y) := Rw5.cell 20 rfl; have qw5_21 : w5.cell? ⟨w.heap.size, 21, none⟩ = some (.slice ba bl bc) := Rw5.cell 21 rfl)))
          go_ret
          exact ⟨by rw [H.out]; rfl, by (repeat' (first | (with_reducible first | exact Up.refl _ | assumption | refine Up.alloc ?_ _ | refine Up.drew ?_ | refine Up.drewN ?_ _ | refine Up.setCell ?_ ?_ _ | refine Up.call ?_ (by assumption)) | go_size))⟩
        by_cases h7 : k = 3
        · subst h7
          have H := Lib.hid (show (itemB true true tL tN tP true true 3 fn pl bl) = tP by simp only [itemB, h2, h3, h4] <;> simp)
          go_wp2_with (first
            | (go_at_call 24; ((with_reducible refine (samePen_calls wd cp jn mt ph da dl dc _).mono ?_); rw [HNO.out]; rintro E w4 ⟨rfl, hu4⟩; have z4 := hu4.size; (try simp at z4); have Rw4 : Row w4 w.heap.size #[.int .i64 3, .slice pa pl pc, .int .i64 1, .int .i64 p0, .int .i64 p1, .int .i64 p2, .int .i64 p3, .slice ca cl cc, .int .i64 wd, .int .i64 cp, .int .i64 jn, .int .i64 mt, .slice da dl dc, .int .i64 ph, .int .i64 fn, .int .i64 m.a, .int .i64 m.b, .int .i64 m.c, .int .i64 m.d, .int .i64 m.x, .int .i64 m.y, .slice ba bl bc] := Row.up (show Row _ w.heap.size #[.int .i64 3, .slice pa pl pc, .int .i64 1, .int .i64 p0, .int .i64 p1, .int .i64 p2, .int .i64 p3, .slice ca cl cc, .int .i64 wd, .int .i64 cp, .int .i64 jn, .int .i64 mt, .slice da dl dc, .int .i64 ph, .int .i64 fn, .int .i64 m.a, .int .i64 m.b, .int .i64 m.c, .int .i64 m.d, .int .i64 m.x, .int .i64 m.y, .slice ba bl bc] by (repeat' (with_reducible first | assumption | (refine Row.at _ _ ?_; (simp; done)) | refine Row.alloc ?_ _ | refine Row.drew ?_ | refine Row.drewN ?_ _ | refine Row.other ?_ (by first | (simp; done) | (simp; omega) | omega) _ | refine Row.up ?_ (by assumption) | refine Row.chg ?_ (by assumption) (by first | (simp; done) | (simp; omega))))) hu4; have lw4 := Rw4.lt; have qw4_0 : w4.cell? ⟨w.heap.size, 0, none⟩ = some (.int .i64 3) := Rw4.cell 0 rfl; have qw4_1 : w4.cell? ⟨w.heap.size, 1, none⟩ = some (.slice pa pl pc) := Rw4.cell 1 rfl; have qw4_7 : w4.cell? ⟨w.heap.size, 7, none⟩ = some (.slice ca cl cc) := Rw4.cell 7 rfl; have qw4_8 : w4.cell? ⟨w.heap.size, 8, none⟩ = some (.int .i64 wd) := Rw4.cell 8 rfl; have qw4_9 : w4.cell? ⟨w.heap.size, 9, none⟩ = some (.int .i64 cp) := Rw4.cell 9 rfl; have qw4_10 : w4.cell? ⟨w.heap.size, 10, none⟩ = some (.int .i64 jn) := Rw4.cell 10 rfl; have qw4_11 : w4.cell? ⟨w.heap.size, 11, none⟩ = some (.int .i64 mt) := Rw4.cell 11 rfl; have qw4_12 : w4.cell? ⟨w.heap.size, 12, none⟩ = some (.slice da dl dc) := Rw4.cell 12 rfl; have qw4_13 : w4.cell? ⟨w.heap.size, 13, none⟩ = some (.int .i64 ph) := Rw4.cell 13 rfl; have qw4_14 : w4.cell? ⟨w.heap.size, 14, none⟩ = some (.int .i64 fn) := Rw4.cell 14 rfl; have qw4_15 : w4.cell? ⟨w.heap.size, 15, none⟩ = some (.int .i64 m.a) := Rw4.cell 15 rfl; have qw4_16 : w4.cell? ⟨w.heap.size, 16, none⟩ = some (.int .i64 m.b) := Rw4.cell 16 rfl; have qw4_17 : w4.cell? ⟨w.heap.size, 17, none⟩ = some (.int .i64 m.c) := Rw4.cell 17 rfl; have qw4_18 : w4.cell? ⟨w.heap.size, 18, none⟩ = some (.int .i64 m.d) := Rw4.cell 18 rfl; have qw4_19 : w4.cell? ⟨w.heap.size, 19, none⟩ = some (.int .i64 m.x) := Rw4.cell 19 rfl; have qw4_20 : w4.cell? ⟨w.heap.size, 20, none⟩ = some (.int .i64 m.y) := Rw4.cell 20 rfl; have qw4_21 : w4.cell? ⟨w.heap.size, 21, none⟩ = some (.slice ba bl bc) := Rw4.cell 21 rfl; have u4 : Up w w4 := (by (repeat' (first | (with_reducible first | exact Up.refl _ | assumption | refine Up.alloc ?_ _ | refine Up.drew ?_ | refine Up.drewN ?_ _ | refine Up.setCell ?_ ?_ _ | refine Up.call ?_ (by assumption)) | go_size)))))
            | (go_at_call 23; ((with_reducible refine (Path.soundPath_calls (.slice pa pl pc) l _ (HL.out.up (by (repeat' (first | (with_reducible first | exact Up.refl _ | assumption | refine Up.alloc ?_ _ | refine Up.drew ?_ | refine Up.drewN ?_ _ | refine Up.setCell ?_ ?_ _ | refine Up.call ?_ (by assumption)) | go_size)))).pv).mono ?_); rw [HSO.out]; rintro E w5 ⟨rfl, hu5⟩; have z5 := hu5.size; have Rw5 : Row w5 w.heap.size #[.int .i64 3, .slice pa pl pc, .int .i64 1, .int .i64 p0, .int .i64 p1, .int .i64 p2, .int .i64 p3, .slice ca cl cc, .int .i64 wd, .int .i64 cp, .int .i64 jn, .int .i64 mt, .slice da dl dc, .int .i64 ph, .int .i64 fn, .int .i64 m.a, .int .i64 m.b, .int .i64 m.c, .int .i64 m.d, .int .i64 m.x, .int .i64 m.y, .slice ba bl bc] := Row.up (show Row _ w.heap.size #[.int .i64 3, .slice pa pl pc, .int .i64 1, .int .i64 p0, .int .i64 p1, .int .i64 p2, .int .i64 p3, .slice ca cl cc, .int .i64 wd, .int .i64 cp, .int .i64 jn, .int .i64 mt, .slice da dl dc, .int .i64 ph, .int .i64 fn, .int .i64 m.a, .int .i64 m.b, .int .i64 m.c, .int .i64 m.d, .int .i64 m.x, .int .i64 m.y, .slice ba bl bc] by (repeat' (with_reducible first | assumption | (refine Row.at _ _ ?_; (simp; done)) | refine Row.alloc ?_ _ | refine Row.drew ?_ | refine Row.drewN ?_ _ | refine Row.other ?_ (by first | (simp; done) | (simp; omega) | omega) _ | refine Row.up ?_ (by assumption) | refine Row.chg ?_ (by assumption) (by first | (simp; done) | (simp; omega))))) hu5; have lw5 := Rw5.lt; have qw5_0 : w5.cell? ⟨w.heap.size, 0, none⟩ = some (.int .i64 3) := Rw5.cell 0 rfl; have qw5_1 : w5.cell? ⟨w.heap.size, 1, none⟩ = some (.slice pa pl pc) := Rw5.cell 1 rfl; have qw5_7 : w5.cell? ⟨w.heap.size, 7, none⟩ = some (.slice ca cl cc) := Rw5.cell 7 rfl; have qw5_8 : w5.cell? ⟨w.heap.size, 8, none⟩ = some (.int .i64 wd) := Rw5.cell 8 rfl; have qw5_9 : w5.cell? ⟨w.heap.size, 9, none⟩ = some (.int .i64 cp) := Rw5.cell 9 rfl; have qw5_10 : w5.cell? ⟨w.heap.size, 10, none⟩ = some (.int .i64 jn) := Rw5.cell 10 rfl; have qw5_11 : w5.cell? ⟨w.heap.size, 11, none⟩ = some (.int .i64 mt) := Rw5.cell 11 rfl; have qw5_12 : w5.cell? ⟨w.heap.size, 12, none⟩ = some (.slice da dl dc) := Rw5.cell 12 rfl; have qw5_13 : w5.cell? ⟨w.heap.size, 13, none⟩ = some (.int .i64 ph) := Rw5.cell 13 rfl; have qw5_14 : w5.cell? ⟨w.heap.size, 14, none⟩ = some (.int .i64 fn) := Rw5.cell 14 rfl; have qw5_15 : w5.cell? ⟨w.heap.size, 15, none⟩ = some (.int .i64 m.a) := Rw5.cell 15 rfl; have qw5_16 : w5.cell? ⟨w.heap.size, 16, none⟩ = some (.int .i64 m.b) := Rw5.cell 16 rfl; have qw5_17 : w5.cell? ⟨w.heap.size, 17, none⟩ = some (.int .i64 m.c) := Rw5.cell 17 rfl; have qw5_18 : w5.cell? ⟨w.heap.size, 18, none⟩ = some (.int .i64 m.d) := Rw5.cell 18 rfl; have qw5_19 : w5.cell? ⟨w.heap.size, 19, none⟩ = some (.int .i64 m.x) := Rw5.cell 19 rfl; have qw5_20 : w5.cell? ⟨w.heap.size, 20, none⟩ = some (.int .i64 m.y) := Rw5.cell 20 rfl; have qw5_21 : w5.cell? ⟨w.heap.size, 21, none⟩ = some (.slice ba bl bc) := Rw5.cell 21 rfl))
            | (go_at_call 26; ((with_reducible refine (soundPen_calls wd cp jn mt ph da dl dc ds _ HL.out.dn (HL.out.up (by (repeat' (first | (with_reducible first | exact Up.refl _ | assumption | refine Up.alloc ?_ _ | refine Up.drew ?_ | refine Up.drewN ?_ _ | refine Up.setCell ?_ ?_ _ | refine Up.call ?_ (by assumption)) | go_size)))).dv).mono ?_); rw [HPN.out]; rintro E w6 ⟨rfl, hu6⟩)))
          go_ret
          exact ⟨by rw [H.out]; rfl, by (repeat' (first | (with_reducible first | exact Up.refl _ | assumption | refine Up.alloc ?_ _ | refine Up.drew ?_ | refine Up.drewN ?_ _ | refine Up.setCell ?_ ?_ _ | refine Up.call ?_ (by assumption)) | go_size))⟩
        have e3 : (k == 3) = false := by simpa using h7
        have h12 : k = 1 ∨ k = 2 := by have a1 : ¬ k < 1 := (by simpa using k1); have a2 : ¬ 3 < k := (by simpa using k3); omega
        have H := Lib.hid (show (itemB true true tL tN tP true true k fn pl bl) = tN by simp only [itemB, hk, h12, h2, h3, h4] <;> simp)
        go_wp2_with (first
          | (go_at_call 24; ((with_reducible refine (samePen_calls wd cp jn mt ph da dl dc _).mono ?_); rw [HNO.out]; rintro E w4 ⟨rfl, hu4⟩; have z4 := hu4.size; (try simp at z4); have Rw4 : Row w4 w.heap.size #[.int .i64 k, .slice pa pl pc, .int .i64 1, .int .i64 p0, .int .i64 p1, .int .i64 p2, .int .i64 p3, .slice ca cl cc, .int .i64 wd, .int .i64 cp, .int .i64 jn, .int .i64 mt, .slice da dl dc, .int .i64 ph, .int .i64 fn, .int .i64 m.a, .int .i64 m.b, .int .i64 m.c, .int .i64 m.d, .int .i64 m.x, .int .i64 m.y, .slice ba bl bc] := Row.up (show Row _ w.heap.size #[.int .i64 k, .slice pa pl pc, .int .i64 1, .int .i64 p0, .int .i64 p1, .int .i64 p2, .int .i64 p3, .slice ca cl cc, .int .i64 wd, .int .i64 cp, .int .i64 jn, .int .i64 mt, .slice da dl dc, .int .i64 ph, .int .i64 fn, .int .i64 m.a, .int .i64 m.b, .int .i64 m.c, .int .i64 m.d, .int .i64 m.x, .int .i64 m.y, .slice ba bl bc] by (repeat' (with_reducible first | assumption | (refine Row.at _ _ ?_; (simp; done)) | refine Row.alloc ?_ _ | refine Row.drew ?_ | refine Row.drewN ?_ _ | refine Row.other ?_ (by first | (simp; done) | (simp; omega) | omega) _ | refine Row.up ?_ (by assumption) | refine Row.chg ?_ (by assumption) (by first | (simp; done) | (simp; omega))))) hu4; have lw4 := Rw4.lt; have qw4_0 : w4.cell? ⟨w.heap.size, 0, none⟩ = some (.int .i64 k) := Rw4.cell 0 rfl; have qw4_1 : w4.cell? ⟨w.heap.size, 1, none⟩ = some (.slice pa pl pc) := Rw4.cell 1 rfl; have qw4_7 : w4.cell? ⟨w.heap.size, 7, none⟩ = some (.slice ca cl cc) := Rw4.cell 7 rfl; have qw4_8 : w4.cell? ⟨w.heap.size, 8, none⟩ = some (.int .i64 wd) := Rw4.cell 8 rfl; have qw4_9 : w4.cell? ⟨w.heap.size, 9, none⟩ = some (.int .i64 cp) := Rw4.cell 9 rfl; have qw4_10 : w4.cell? ⟨w.heap.size, 10, none⟩ = some (.int .i64 jn) := Rw4.cell 10 rfl; have qw4_11 : w4.cell? ⟨w.heap.size, 11, none⟩ = some (.int .i64 mt) := Rw4.cell 11 rfl; have qw4_12 : w4.cell? ⟨w.heap.size, 12, none⟩ = some (.slice da dl dc) := Rw4.cell 12 rfl; have qw4_13 : w4.cell? ⟨w.heap.size, 13, none⟩ = some (.int .i64 ph) := Rw4.cell 13 rfl; have qw4_14 : w4.cell? ⟨w.heap.size, 14, none⟩ = some (.int .i64 fn) := Rw4.cell 14 rfl; have qw4_15 : w4.cell? ⟨w.heap.size, 15, none⟩ = some (.int .i64 m.a) := Rw4.cell 15 rfl; have qw4_16 : w4.cell? ⟨w.heap.size, 16, none⟩ = some (.int .i64 m.b) := Rw4.cell 16 rfl; have qw4_17 : w4.cell? ⟨w.heap.size, 17, none⟩ = some (.int .i64 m.c) := Rw4.cell 17 rfl; have qw4_18 : w4.cell? ⟨w.heap.size, 18, none⟩ = some (.int .i64 m.d) := Rw4.cell 18 rfl; have qw4_19 : w4.cell? ⟨w.heap.size, 19, none⟩ = some (.int .i64 m.x) := Rw4.cell 19 rfl; have qw4_20 : w4.cell? ⟨w.heap.size, 20, none⟩ = some (.int .i64 m.y) := Rw4.cell 20 rfl; have qw4_21 : w4.cell? ⟨w.heap.size, 21, none⟩ = some (.slice ba bl bc) := Rw4.cell 21 rfl; have u4 : Up w w4 := (by (repeat' (first | (with_reducible first | exact Up.refl _ | assumption | refine Up.alloc ?_ _ | refine Up.drew ?_ | refine Up.drewN ?_ _ | refine Up.setCell ?_ ?_ _ | refine Up.call ?_ (by assumption)) | go_size)))))
          | (go_at_call 23; ((with_reducible refine (Path.soundPath_calls (.slice pa pl pc) l _ (HL.out.up (by (repeat' (first | (with_reducible first | exact Up.refl _ | assumption | refine Up.alloc ?_ _ | refine Up.drew ?_ | refine Up.drewN ?_ _ | refine Up.setCell ?_ ?_ _ | refine Up.call ?_ (by assumption)) | go_size)))).pv).mono ?_); rw [HSO.out]; rintro E w5 ⟨rfl, hu5⟩; have z5 := hu5.size; have Rw5 : Row w5 w.heap.size #[.int .i64 k, .slice pa pl pc, .int .i64 1, .int .i64 p0, .int .i64 p1, .int .i64 p2, .int .i64 p3, .slice ca cl cc, .int .i64 wd, .int .i64 cp, .int .i64 jn, .int .i64 mt, .slice da dl dc, .int .i64 ph, .int .i64 fn, .int .i64 m.a, .int .i64 m.b, .int .i64 m.c, .int .i64 m.d, .int .i64 m.x, .int .i64 m.y, .slice ba bl bc] := Row.up (show Row _ w.heap.size #[.int .i64 k, .slice pa pl pc, .int .i64 1, .int .i64 p0, .int .i64 p1, .int .i64 p2, .int .i64 p3, .slice ca cl cc, .int .i64 wd, .int .i64 cp, .int .i64 jn, .int .i64 mt, .slice da dl dc, .int .i64 ph, .int .i64 fn, .int .i64 m.a, .int .i64 m.b, .int .i64 m.c, .int .i64 m.d, .int .i64 m.x, .int .i64 m.y, .slice ba bl bc] by (repeat' (with_reducible first | assumption | (refine Row.at _ _ ?_; (simp; done)) | refine Row.alloc ?_ _ | refine Row.drew ?_ | refine Row.drewN ?_ _ | refine Row.other ?_ (by first | (simp; done) | (simp; omega) | omega) _ | refine Row.up ?_ (by assumption) | refine Row.chg ?_ (by assumption) (by first | (simp; done) | (simp; omega))))) hu5; have lw5 := Rw5.lt; have qw5_0 : w5.cell? ⟨w.heap.size, 0, none⟩ = some (.int .i64 k) := Rw5.cell 0 rfl; have qw5_1 : w5.cell? ⟨w.heap.size, 1, none⟩ = some (.slice pa pl pc) := Rw5.cell 1 rfl; have qw5_7 : w5.cell? ⟨w.heap.size, 7, none⟩ = some (.slice ca cl cc) := Rw5.cell 7 rfl; have qw5_8 : w5.cell? ⟨w.heap.size, 8, none⟩ = some (.int .i64 wd) := Rw5.cell 8 rfl; have qw5_9 : w5.cell? ⟨w.heap.size, 9, none⟩ = some (.int .i64 cp) := Rw5.cell 9 rfl; have qw5_10 : w5.cell? ⟨w.heap.size, 10, none⟩ = some (.int .i64 jn) := Rw5.cell 10 rfl; have qw5_11 : w5.cell? ⟨w.heap.size, 11, none⟩ = some (.int .i64 mt) := Rw5.cell 11 rfl; have qw5_12 : w5.cell? ⟨w.heap.size, 12, none⟩ = some (.slice da dl dc) := Rw5.cell 12 rfl; have qw5_13 : w5.cell? ⟨w.heap.size, 13, none⟩ = some (.int .i64 ph) := Rw5.cell 13 rfl; have qw5_14 : w5.cell? ⟨w.heap.size, 14, none⟩ = some (.int .i64 fn) := Rw5.cell 14 rfl; have qw5_15 : w5.cell? ⟨w.heap.size, 15, none⟩ = some (.int .i64 m.a) := Rw5.cell 15 rfl; have qw5_16 : w5.cell? ⟨w.heap.size, 16, none⟩ = some (.int .i64 m.b) := Rw5.cell 16 rfl; have qw5_17 : w5.cell? ⟨w.heap.size, 17, none⟩ = some (.int .i64 m.c) := Rw5.cell 17 rfl; have qw5_18 : w5.cell? ⟨w.heap.size, 18, none⟩ = some (.int .i64 m.d) := Rw5.cell 18 rfl; have qw5_19 : w5.cell? ⟨w.heap.size, 19, none⟩ = some (.int .i64 m.x) := Rw5.cell 19 rfl; have qw5_20 : w5.cell? ⟨w.heap.size, 20, none⟩ = some (.int .i64 m.y) := Rw5.cell 20 rfl; have qw5_21 : w5.cell? ⟨w.heap.size, 21, none⟩ = some (.slice ba bl bc) := Rw5.cell 21 rfl)))
        go_ret
        exact ⟨by rw [H.out]; rfl, by (repeat' (first | (with_reducible first | exact Up.refl _ | assumption | refine Up.alloc ?_ _ | refine Up.drew ?_ | refine Up.drewN ?_ _ | refine Up.setCell ?_ ?_ _ | refine Up.call ?_ (by assumption)) | go_size))⟩

set_option maxRecDepth 8000 in
set_option maxHeartbeats 16000000 in
theorem soundItem_3 (k : Int) (pa : Option Addr) (pl pc : Nat) (p0 p1 p2 p3 : Int) (ca : Option Addr) (cl cc : Nat) (wd cp jn mt : Int) (da : Option Addr) (dl dc : Nat) (ph fn : Int) (m : M6) (ba : Option Addr) (bl bc : Nat) (l : List Seg) (cs : List Clip) (ds bs : List Int) (tC tK tL tN tP tS tM : Bool) (w : World) (hL : Lists w pa pl pc ca cl cc da dl dc ba bl bc l cs ds bs)
    (hC : colorR 3 p0 p1 p2 p3 = tC) (hK : clipsR cs = tK) (hLT : lettersR fn m bl = tL) (hNO : noneR wd cp jn mt dl ph = tN) (hPN : penR wd cp jn mt ds ph = tP) (hSO : sound l = tS) (hM : m0 m = tM) :
    Calls Tryd.prog 10 #[.agg #[.int .i64 k, .slice pa pl pc, .int .i64 3, .int .i64 p0, .int .i64 p1, .int .i64 p2, .int .i64 p3, .slice ca cl cc, .int .i64 wd, .int .i64 cp, .int .i64 jn, .int .i64 mt, .slice da dl dc, .int .i64 ph, .int .i64 fn, .int .i64 m.a, .int .i64 m.b, .int .i64 m.c, .int .i64 m.d, .int .i64 m.x, .int .i64 m.y, .slice ba bl bc]] w fun E w' => E = .returned (.bool (itemB tC tK tL tN tP tS tM k fn pl bl)) ∧ Up w w' := by
  have HL := Lib.hid hL
  have HC := Lib.hid hC
  have HK := Lib.hid hK
  have HLT := Lib.hid hLT
  have HNO := Lib.hid hNO
  have HPN := Lib.hid hPN
  have HSO := Lib.hid hSO
  have HCN := Lib.hid hL.sl.2.2.1
  have HCC := Lib.hid hL.sl.2.2.2.2
  have heq : ∀ W : World, (Op.equalIn 10000 33 (.agg #[.int .i64 m.a, .int .i64 m.b, .int .i64 m.c, .int .i64 m.d, .int .i64 m.x, .int .i64 m.y]) (.agg #[.int .i64 0, .int .i64 0, .int .i64 0, .int .i64 0, .int .i64 0, .int .i64 0])).run Tryd.prog W = .ok tM W := fun W => by
    rw [run_eq6]
    exact congrArg (fun b => Result.ok b W) hM
  clear hL hC hK hLT hNO hPN hSO hM
  have HS := Lib.hid (show spaceOk 3 = true by decide)
  go_enter Tryd.func10, Tryd.ntmps10
  go_wp2
  go_loop [4] (fun s4 => ∃ j : Nat, j ≤ 4 ∧ s4 = .int .i64 j ∧ Hid (0 < j → partOk 3 0 p0 = true) ∧ Hid (1 < j → partOk 3 1 p1 = true) ∧ Hid (2 < j → partOk 3 2 p2 = true) ∧ Hid (3 < j → partOk 3 3 p3 = true)) (fun s4 => 4 - (intOf s4).toNat)
  case atStart => exact ⟨0, by decide, rfl, Lib.hid (fun h => absurd h (by decide)), Lib.hid (fun h => absurd h (by decide)), Lib.hid (fun h => absurd h (by decide)), Lib.hid (fun h => absurd h (by decide))⟩
  case round =>
    obtain ⟨j, hj, rfl, HO0, HO1, HO2, HO3⟩ := hrel
    rcases (show j = 0 ∨ j = 1 ∨ j = 2 ∨ j = 3 ∨ j = 4 by omega) with rfl | rfl | rfl | rfl | rfl
    · obtain ⟨b1, q1⟩ : ∃ b, decide (p0 < 0) = b := ⟨_, rfl⟩
      cases b1
      rotate_left
      · have H := Lib.hid (show (itemB tC tK tL tN tP tS tM k fn pl bl) = false by have hc : tC = false := (by rw [← HC.out]; have h1 : partOk 3 0 p0 = false := (by simp [partOk, q1]); simp [colorR, h1]); rw [hc]; simp [itemB])
        go_wp2
        go_ret
        exact ⟨by rw [H.out]; rfl, by (repeat' (first | (with_reducible first | exact Up.refl _ | assumption | refine Up.alloc ?_ _ | refine Up.drew ?_ | refine Up.drewN ?_ _ | refine Up.setCell ?_ ?_ _ | refine Up.call ?_ (by assumption)) | go_size))⟩
      obtain ⟨b2, q2⟩ : ∃ b, decide (65536 < p0) = b := ⟨_, rfl⟩
      cases b2
      rotate_left
      · have H := Lib.hid (show (itemB tC tK tL tN tP tS tM k fn pl bl) = false by have hc : tC = false := (by rw [← HC.out]; have h1 : partOk 3 0 p0 = false := (by simp [partOk, q1, q2]); simp [colorR, h1]); rw [hc]; simp [itemB])
        go_wp2
        go_ret
        exact ⟨by rw [H.out]; rfl, by (repeat' (first | (with_reducible first | exact Up.refl _ | assumption | refine Up.alloc ?_ _ | refine Up.drew ?_ | refine Up.drewN ?_ _ | refine Up.setCell ?_ ?_ _ | refine Up.call ?_ (by assumption)) | go_size))⟩
      have HG := Lib.hid (show partOk 3 0 p0 = true by simp [partOk, q1, q2])
      go_wp2
      go_roundw
      case rel => exact ⟨1, by decide, by go_num, Lib.hid (fun _ => HG.out), Lib.hid (fun h => absurd h (by decide)), Lib.hid (fun h => absurd h (by decide)), Lib.hid (fun h => absurd h (by decide))⟩
      case measure => simp [intOf]
    · obtain ⟨b1, q1⟩ : ∃ b, decide (p1 < 0) = b := ⟨_, rfl⟩
      cases b1
      rotate_left
      · have H := Lib.hid (show (itemB tC tK tL tN tP tS tM k fn pl bl) = false by have hc : tC = false := (by rw [← HC.out]; have h1 : partOk 3 1 p1 = false := (by simp [partOk, q1]); simp [colorR, h1]); rw [hc]; simp [itemB])
        go_wp2
        go_ret
        exact ⟨by rw [H.out]; rfl, by (repeat' (first | (with_reducible first | exact Up.refl _ | assumption | refine Up.alloc ?_ _ | refine Up.drew ?_ | refine Up.drewN ?_ _ | refine Up.setCell ?_ ?_ _ | refine Up.call ?_ (by assumption)) | go_size))⟩
      obtain ⟨b2, q2⟩ : ∃ b, decide (65536 < p1) = b := ⟨_, rfl⟩
      cases b2
      rotate_left
      · have H := Lib.hid (show (itemB tC tK tL tN tP tS tM k fn pl bl) = false by have hc : tC = false := (by rw [← HC.out]; have h1 : partOk 3 1 p1 = false := (by simp [partOk, q1, q2]); simp [colorR, h1]); rw [hc]; simp [itemB])
        go_wp2
        go_ret
        exact ⟨by rw [H.out]; rfl, by (repeat' (first | (with_reducible first | exact Up.refl _ | assumption | refine Up.alloc ?_ _ | refine Up.drew ?_ | refine Up.drewN ?_ _ | refine Up.setCell ?_ ?_ _ | refine Up.call ?_ (by assumption)) | go_size))⟩
      have HG := Lib.hid (show partOk 3 1 p1 = true by simp [partOk, q1, q2])
      go_wp2
      go_roundw
      case rel => exact ⟨2, by decide, by go_num, Lib.hid (fun _ => HO0.out (by decide)), Lib.hid (fun _ => HG.out), Lib.hid (fun h => absurd h (by decide)), Lib.hid (fun h => absurd h (by decide))⟩
      case measure => simp [intOf]
    · obtain ⟨b1, q1⟩ : ∃ b, decide (p2 < 0) = b := ⟨_, rfl⟩
      cases b1
      rotate_left
      · have H := Lib.hid (show (itemB tC tK tL tN tP tS tM k fn pl bl) = false by have hc : tC = false := (by rw [← HC.out]; have h1 : partOk 3 2 p2 = false := (by simp [partOk, q1]); simp [colorR, h1]); rw [hc]; simp [itemB])
        go_wp2
        go_ret
        exact ⟨by rw [H.out]; rfl, by (repeat' (first | (with_reducible first | exact Up.refl _ | assumption | refine Up.alloc ?_ _ | refine Up.drew ?_ | refine Up.drewN ?_ _ | refine Up.setCell ?_ ?_ _ | refine Up.call ?_ (by assumption)) | go_size))⟩
      obtain ⟨b2, q2⟩ : ∃ b, decide (65536 < p2) = b := ⟨_, rfl⟩
      cases b2
      rotate_left
      · have H := Lib.hid (show (itemB tC tK tL tN tP tS tM k fn pl bl) = false by have hc : tC = false := (by rw [← HC.out]; have h1 : partOk 3 2 p2 = false := (by simp [partOk, q1, q2]); simp [colorR, h1]); rw [hc]; simp [itemB])
        go_wp2
        go_ret
        exact ⟨by rw [H.out]; rfl, by (repeat' (first | (with_reducible first | exact Up.refl _ | assumption | refine Up.alloc ?_ _ | refine Up.drew ?_ | refine Up.drewN ?_ _ | refine Up.setCell ?_ ?_ _ | refine Up.call ?_ (by assumption)) | go_size))⟩
      have HG := Lib.hid (show partOk 3 2 p2 = true by simp [partOk, q1, q2])
      go_wp2
      go_roundw
      case rel => exact ⟨3, by decide, by go_num, Lib.hid (fun _ => HO0.out (by decide)), Lib.hid (fun _ => HO1.out (by decide)), Lib.hid (fun _ => HG.out), Lib.hid (fun h => absurd h (by decide))⟩
      case measure => simp [intOf]
    · obtain ⟨b1, q1⟩ : ∃ b, decide (p3 < 0) = b := ⟨_, rfl⟩
      cases b1
      rotate_left
      · have H := Lib.hid (show (itemB tC tK tL tN tP tS tM k fn pl bl) = false by have hc : tC = false := (by rw [← HC.out]; have h1 : partOk 3 3 p3 = false := (by simp [partOk, q1]); simp [colorR, h1]); rw [hc]; simp [itemB])
        go_wp2
        go_ret
        exact ⟨by rw [H.out]; rfl, by (repeat' (first | (with_reducible first | exact Up.refl _ | assumption | refine Up.alloc ?_ _ | refine Up.drew ?_ | refine Up.drewN ?_ _ | refine Up.setCell ?_ ?_ _ | refine Up.call ?_ (by assumption)) | go_size))⟩
      obtain ⟨b2, q2⟩ : ∃ b, decide (65536 < p3) = b := ⟨_, rfl⟩
      cases b2
      rotate_left
      · have H := Lib.hid (show (itemB tC tK tL tN tP tS tM k fn pl bl) = false by have hc : tC = false := (by rw [← HC.out]; have h1 : partOk 3 3 p3 = false := (by simp [partOk, q1, q2]); simp [colorR, h1]); rw [hc]; simp [itemB])
        go_wp2
        go_ret
        exact ⟨by rw [H.out]; rfl, by (repeat' (first | (with_reducible first | exact Up.refl _ | assumption | refine Up.alloc ?_ _ | refine Up.drew ?_ | refine Up.drewN ?_ _ | refine Up.setCell ?_ ?_ _ | refine Up.call ?_ (by assumption)) | go_size))⟩
      obtain ⟨b4, q4⟩ : ∃ b, (p3 != 0) = b := ⟨_, rfl⟩
      cases b4
      rotate_left
      · have H := Lib.hid (show (itemB tC tK tL tN tP tS tM k fn pl bl) = false by have hc : tC = false := (by rw [← HC.out]; have h1 : partOk 3 3 p3 = false := (by simp [partOk, q1, q2, show (p3 == 0) = false by simpa using q4]); simp [colorR, h1]); rw [hc]; simp [itemB])
        go_wp2
        go_ret
        exact ⟨by rw [H.out]; rfl, by (repeat' (first | (with_reducible first | exact Up.refl _ | assumption | refine Up.alloc ?_ _ | refine Up.drew ?_ | refine Up.drewN ?_ _ | refine Up.setCell ?_ ?_ _ | refine Up.call ?_ (by assumption)) | go_size))⟩
      have Q5 := Lib.hid (show (p3 == 0) = true by simpa using q4)
      have HG := Lib.hid (show partOk 3 3 p3 = true by simp [partOk, q1, q2, Q5.out])
      go_wp2
      go_roundw
      case rel => exact ⟨4, by decide, by go_num, Lib.hid (fun _ => HO0.out (by decide)), Lib.hid (fun _ => HO1.out (by decide)), Lib.hid (fun _ => HO2.out (by decide)), Lib.hid (fun _ => HG.out)⟩
      case measure => simp [intOf]
    · have HTC := Lib.hid (show tC = true by rw [← HC.out]; simp [colorR, HS.out, HO0.out (by decide), HO1.out (by decide), HO2.out (by decide), HO3.out (by decide)])
      obtain rfl := HTC.out
      by_cases h16 : cl ≤ 16
      rotate_left
      · have hcast : decide ((16 : Int) < (cl : Int)) = true := decide_eq_true (by omega)
        have H := Lib.hid (show itemB true tK tL tN tP tS tM k fn pl bl = false by have e : clipsR cs = false := (by simp only [clipsR, HCN.out, decide_eq_false h16, Bool.false_and]); rw [← HK.out, e]; simp [itemB])
        go_wp2
        go_ret
        exact ⟨by rw [H.out]; rfl, by (repeat' (first | (with_reducible first | exact Up.refl _ | assumption | refine Up.alloc ?_ _ | refine Up.drew ?_ | refine Up.drewN ?_ _ | refine Up.setCell ?_ ?_ _ | refine Up.call ?_ (by assumption)) | go_size))⟩
      have hcast : decide ((16 : Int) < (cl : Int)) = false := decide_eq_false (by omega)
      go_wp2
      go_loopw [5] (fun s5 wr => ∃ j : Nat, j ≤ cl ∧ s5 = .int .i64 j ∧ Hid ((cs.take j).all clipOk = true) ∧ Hid (Row wr w.heap.size #[.int .i64 k, .slice pa pl pc, .int .i64 3, .int .i64 p0, .int .i64 p1, .int .i64 p2, .int .i64 p3, .slice ca cl cc, .int .i64 wd, .int .i64 cp, .int .i64 jn, .int .i64 mt, .slice da dl dc, .int .i64 ph, .int .i64 fn, .int .i64 m.a, .int .i64 m.b, .int .i64 m.c, .int .i64 m.d, .int .i64 m.x, .int .i64 m.y, .slice ba bl bc]) ∧ Up w wr) (fun s5 _ => cl - (intOf s5).toNat)
      case atStart => exact ⟨0, Nat.zero_le _, rfl, Lib.hid (by simp), Lib.hid (by (repeat' (with_reducible first | assumption | (refine Row.at _ _ ?_; (simp; done)) | refine Row.alloc ?_ _ | refine Row.drew ?_ | refine Row.drewN ?_ _ | refine Row.other ?_ (by first | (simp; done) | (simp; omega) | omega) _ | refine Row.up ?_ (by assumption) | refine Row.chg ?_ (by assumption) (by first | (simp; done) | (simp; omega))))), by (repeat' (first | (with_reducible first | exact Up.refl _ | assumption | refine Up.alloc ?_ _ | refine Up.drew ?_ | refine Up.drewN ?_ _ | refine Up.setCell ?_ ?_ _ | refine Up.call ?_ (by assumption)) | go_size))⟩
      case round =>
        clear hcast
        obtain ⟨j, hj, rfl, HA, HRW, hup⟩ := hrel
        have RWR := HRW.out
        have lWR := RWR.lt
        have hz := hup.size
        have qWR_0 : wr.cell? ⟨w.heap.size, 0, none⟩ = some (.int .i64 k) := RWR.cell 0 rfl
        have qWR_1 : wr.cell? ⟨w.heap.size, 1, none⟩ = some (.slice pa pl pc) := RWR.cell 1 rfl
        have qWR_7 : wr.cell? ⟨w.heap.size, 7, none⟩ = some (.slice ca cl cc) := RWR.cell 7 rfl
        have qWR_8 : wr.cell? ⟨w.heap.size, 8, none⟩ = some (.int .i64 wd) := RWR.cell 8 rfl
        have qWR_9 : wr.cell? ⟨w.heap.size, 9, none⟩ = some (.int .i64 cp) := RWR.cell 9 rfl
        have qWR_10 : wr.cell? ⟨w.heap.size, 10, none⟩ = some (.int .i64 jn) := RWR.cell 10 rfl
        have qWR_11 : wr.cell? ⟨w.heap.size, 11, none⟩ = some (.int .i64 mt) := RWR.cell 11 rfl
        have qWR_12 : wr.cell? ⟨w.heap.size, 12, none⟩ = some (.slice da dl dc) := RWR.cell 12 rfl
        have qWR_13 : wr.cell? ⟨w.heap.size, 13, none⟩ = some (.int .i64 ph) := RWR.cell 13 rfl
        have qWR_14 : wr.cell? ⟨w.heap.size, 14, none⟩ = some (.int .i64 fn) := RWR.cell 14 rfl
        have qWR_15 : wr.cell? ⟨w.heap.size, 15, none⟩ = some (.int .i64 m.a) := RWR.cell 15 rfl
        have qWR_16 : wr.cell? ⟨w.heap.size, 16, none⟩ = some (.int .i64 m.b) := RWR.cell 16 rfl
        have qWR_17 : wr.cell? ⟨w.heap.size, 17, none⟩ = some (.int .i64 m.c) := RWR.cell 17 rfl
        have qWR_18 : wr.cell? ⟨w.heap.size, 18, none⟩ = some (.int .i64 m.d) := RWR.cell 18 rfl
        have qWR_19 : wr.cell? ⟨w.heap.size, 19, none⟩ = some (.int .i64 m.x) := RWR.cell 19 rfl
        have qWR_20 : wr.cell? ⟨w.heap.size, 20, none⟩ = some (.int .i64 m.y) := RWR.cell 20 rfl
        have qWR_21 : wr.cell? ⟨w.heap.size, 21, none⟩ = some (.slice ba bl bc) := RWR.cell 21 rfl
        by_cases hlt : j < cl
        · obtain ⟨⟨v, sl, eo⟩, hx⟩ : ∃ x, cs[j]? = some x := ⟨_, List.getElem?_eq_getElem (by have := HCN.out; omega)⟩
          obtain ⟨b, ob, rfl, hb, hc⟩ := HCC.out (by omega)
          have hc0 := hc j _ 0 _ hx rfl
          simp only [Clip.cells, Nat.add_zero] at hc0
          have hq0 := (hup.cells.1 b _ hb).trans hc0
          have hsv := HL.out.sv _ (List.mem_of_getElem? hx)
          simp only at hsv
          obtain ⟨va, vc, e⟩ := segV_len hsv
          subst e
          obtain ⟨vn, hvn⟩ : ∃ vn, sl.length = vn := ⟨_, rfl⟩
          rw [hvn] at hq0 hsv
          have HSV := Lib.hid hsv
          have HVN := Lib.hid hvn
          have HX := Lib.hid hx
          have hlb : b < wr.heap.size := Nat.lt_of_lt_of_le hb hup.size
          have hcast : decide ((j : Int) < (cl : Int)) = true := decide_eq_true (by omega)
          clear hc0 hc hx hsv hvn
          have HBAD := Lib.hid (fun (h : clipOk ⟨.slice va vn vc, sl, eo⟩ = false) => Lib.hid (show itemB true tK tL tN tP tS tM k fn pl bl = false by
            have e : clipsR cs = false := by
              have e2 : cs.all clipOk = false := by
                rw [List.all_eq_false]
                exact ⟨_, List.mem_of_getElem? HX.out, by rw [HVN.out]; simp [h]⟩
              simp [clipsR, e2]
            rw [← HK.out, e]
            simp [itemB]))
          obtain ⟨b1, q1⟩ : ∃ b, ((vn : Int) == 0) = b := ⟨_, rfl⟩
          have HQ1 := Lib.hid (show (sl.length == 0) = b1 by rw [HVN.out, ← q1]; cases vn <;> simp <;> omega)
          cases b1
          rotate_left
          · have H := HBAD.out (by simp [clipOk, HQ1.out])
            go_wp2
            go_ret
            exact ⟨by rw [H.out]; rfl, by (repeat' (first | (with_reducible first | exact Up.refl _ | assumption | refine Up.alloc ?_ _ | refine Up.drew ?_ | refine Up.drewN ?_ _ | refine Up.setCell ?_ ?_ _ | refine Up.call ?_ (by assumption)) | go_size))⟩
          obtain ⟨b2, hb2⟩ : ∃ b, sound sl = b := ⟨_, rfl⟩
          have HB2 := Lib.hid hb2
          clear hb2
          cases b2
          · have H := HBAD.out (by simp [clipOk, HB2.out])
            go_wp2_with (go_at_call 23; ((with_reducible refine (Path.soundPath_calls (.slice va vn vc) sl _ (HSV.out.up (by (repeat' (first | (with_reducible first | exact Up.refl _ | assumption | refine Up.alloc ?_ _ | refine Up.drew ?_ | refine Up.drewN ?_ _ | refine Up.setCell ?_ ?_ _ | refine Up.call ?_ (by assumption)) | go_size))))).mono ?_); rw [HB2.out]; rintro E w7 ⟨rfl, hu7⟩))
            go_ret
            exact ⟨by rw [H.out]; rfl, by (repeat' (first | (with_reducible first | exact Up.refl _ | assumption | refine Up.alloc ?_ _ | refine Up.drew ?_ | refine Up.drewN ?_ _ | refine Up.setCell ?_ ?_ _ | refine Up.call ?_ (by assumption)) | go_size))⟩
          have HOK := Lib.hid (show clipOk ⟨.slice va sl.length vc, sl, eo⟩ = true by simp [clipOk, HQ1.out, HB2.out])
          go_wp2_with (go_at_call 23; ((with_reducible refine (Path.soundPath_calls (.slice va vn vc) sl _ (HSV.out.up (by (repeat' (first | (with_reducible first | exact Up.refl _ | assumption | refine Up.alloc ?_ _ | refine Up.drew ?_ | refine Up.drewN ?_ _ | refine Up.setCell ?_ ?_ _ | refine Up.call ?_ (by assumption)) | go_size))))).mono ?_); rw [HB2.out]; rintro E w7 ⟨rfl, hu7⟩))
          go_roundw
          case rel => exact ⟨j + 1, by omega, by go_num, Lib.hid (all_step HX.out HA.out HOK.out), Lib.hid (Row.up RWR hu7), by (repeat' (first | (with_reducible first | exact Up.refl _ | assumption | refine Up.alloc ?_ _ | refine Up.drew ?_ | refine Up.drewN ?_ _ | refine Up.setCell ?_ ?_ _ | refine Up.call ?_ (by assumption)) | go_size))⟩
          case measure => simp [intOf]; omega
        have hcast : decide ((j : Int) < (cl : Int)) = false := decide_eq_false (by omega)
        have HTK := Lib.hid (show tK = true by
          rw [← HK.out]
          have h1 := HA.out
          rw [List.take_of_length_le (by have := HCN.out; omega)] at h1
          simp only [clipsR, h1, HCN.out, decide_eq_true h16, Bool.and_true])
        obtain rfl := HTK.out
        by_cases hk : k = 4
        · subst hk
          go_wp2_with (first
            | (go_at_call 24; ((with_reducible refine (samePen_calls wd cp jn mt ph da dl dc _).mono ?_); rw [HNO.out]; rintro E w4 ⟨rfl, hu4⟩; have z4 := hu4.size; (try simp at z4); have Rw4 : Row w4 w.heap.size #[.int .i64 4, .slice pa pl pc, .int .i64 3, .int .i64 p0, .int .i64 p1, .int .i64 p2, .int .i64 p3, .slice ca cl cc, .int .i64 wd, .int .i64 cp, .int .i64 jn, .int .i64 mt, .slice da dl dc, .int .i64 ph, .int .i64 fn, .int .i64 m.a, .int .i64 m.b, .int .i64 m.c, .int .i64 m.d, .int .i64 m.x, .int .i64 m.y, .slice ba bl bc] := Row.up (show Row _ w.heap.size #[.int .i64 4, .slice pa pl pc, .int .i64 3, .int .i64 p0, .int .i64 p1, .int .i64 p2, .int .i64 p3, .slice ca cl cc, .int .i64 wd, .int .i64 cp, .int .i64 jn, .int .i64 mt, .slice da dl dc, .int .i64 ph, .int .i64 fn, .int .i64 m.a, .int .i64 m.b, .int .i64 m.c, .int .i64 m.d, .int .i64 m.x, .int .i64 m.y, .slice ba bl bc] by (repeat' (with_reducible first | assumption | (refine Row.at _ _ ?_; (simp; done)) | refine Row.alloc ?_ _ | refine Row.drew ?_ | refine Row.drewN ?_ _ | refine Row.other ?_ (by first | (simp; done) | (simp; omega) | omega) _ | refine Row.up ?_ (by assumption) | refine Row.chg ?_ (by assumption) (by first | (simp; done) | (simp; omega))))) hu4; have lw4 := Rw4.lt; have qw4_0 : w4.cell? ⟨w.heap.size, 0, none⟩ = some (.int .i64 4) := Rw4.cell 0 rfl; have qw4_1 : w4.cell? ⟨w.heap.size, 1, none⟩ = some (.slice pa pl pc) := Rw4.cell 1 rfl; have qw4_7 : w4.cell? ⟨w.heap.size, 7, none⟩ = some (.slice ca cl cc) := Rw4.cell 7 rfl; have qw4_8 : w4.cell? ⟨w.heap.size, 8, none⟩ = some (.int .i64 wd) := Rw4.cell 8 rfl; have qw4_9 : w4.cell? ⟨w.heap.size, 9, none⟩ = some (.int .i64 cp) := Rw4.cell 9 rfl; have qw4_10 : w4.cell? ⟨w.heap.size, 10, none⟩ = some (.int .i64 jn) := Rw4.cell 10 rfl; have qw4_11 : w4.cell? ⟨w.heap.size, 11, none⟩ = some (.int .i64 mt) := Rw4.cell 11 rfl; have qw4_12 : w4.cell? ⟨w.heap.size, 12, none⟩ = some (.slice da dl dc) := Rw4.cell 12 rfl; have qw4_13 : w4.cell? ⟨w.heap.size, 13, none⟩ = some (.int .i64 ph) := Rw4.cell 13 rfl; have qw4_14 : w4.cell? ⟨w.heap.size, 14, none⟩ = some (.int .i64 fn) := Rw4.cell 14 rfl; have qw4_15 : w4.cell? ⟨w.heap.size, 15, none⟩ = some (.int .i64 m.a) := Rw4.cell 15 rfl; have qw4_16 : w4.cell? ⟨w.heap.size, 16, none⟩ = some (.int .i64 m.b) := Rw4.cell 16 rfl; have qw4_17 : w4.cell? ⟨w.heap.size, 17, none⟩ = some (.int .i64 m.c) := Rw4.cell 17 rfl; have qw4_18 : w4.cell? ⟨w.heap.size, 18, none⟩ = some (.int .i64 m.d) := Rw4.cell 18 rfl; have qw4_19 : w4.cell? ⟨w.heap.size, 19, none⟩ = some (.int .i64 m.x) := Rw4.cell 19 rfl; have qw4_20 : w4.cell? ⟨w.heap.size, 20, none⟩ = some (.int .i64 m.y) := Rw4.cell 20 rfl; have qw4_21 : w4.cell? ⟨w.heap.size, 21, none⟩ = some (.slice ba bl bc) := Rw4.cell 21 rfl; have u4 : Up w w4 := (by (repeat' (first | (with_reducible first | exact Up.refl _ | assumption | refine Up.alloc ?_ _ | refine Up.drew ?_ | refine Up.drewN ?_ _ | refine Up.setCell ?_ ?_ _ | refine Up.call ?_ (by assumption)) | go_size))))))
          go_loop [7] (fun s7 => ∃ j : Nat, j ≤ 6 ∧ s7 = .int .i64 j ∧ Hid (0 < j → fits m.a = true) ∧ Hid (1 < j → fits m.b = true) ∧ Hid (2 < j → fits m.c = true) ∧ Hid (3 < j → fits m.d = true) ∧ Hid (4 < j → fits m.x = true) ∧ Hid (5 < j → fits m.y = true)) (fun s7 => 6 - (intOf s7).toNat)
          case atStart => exact ⟨0, by decide, rfl, Lib.hid (fun h => absurd h (by decide)), Lib.hid (fun h => absurd h (by decide)), Lib.hid (fun h => absurd h (by decide)), Lib.hid (fun h => absurd h (by decide)), Lib.hid (fun h => absurd h (by decide)), Lib.hid (fun h => absurd h (by decide))⟩
          case round =>
            obtain ⟨j, hj, rfl, HM0, HM1, HM2, HM3, HM4, HM5⟩ := hrel
            rcases (show j = 0 ∨ j = 1 ∨ j = 2 ∨ j = 3 ∨ j = 4 ∨ j = 5 ∨ j = 6 by omega) with rfl | rfl | rfl | rfl | rfl | rfl | rfl
            · obtain ⟨b1, q1⟩ : ∃ b, fits m.a = b := ⟨_, rfl⟩
              cases b1
              · have HTL := Lib.hid (show tL = false by rw [← HLT.out]; exact letters_bad (by simp [q1]))
                have H := Lib.hid (show itemB true true tL tN tP tS tM 4 fn pl bl = false by rw [HTL.out]; simp [itemB])
                go_wp2_with (go_at_call 25; ((with_reducible refine (Rfix.fits_calls _ _).mono ?_); rintro e w' ⟨rfl, rfl⟩))
                go_ret
                exact ⟨by rw [H.out]; rfl, by (repeat' (first | (with_reducible first | exact Up.refl _ | assumption | refine Up.alloc ?_ _ | refine Up.drew ?_ | refine Up.drewN ?_ _ | refine Up.setCell ?_ ?_ _ | refine Up.call ?_ (by assumption)) | go_size))⟩
              · have HG := Lib.hid q1
                go_wp2_with (go_at_call 25; ((with_reducible refine (Rfix.fits_calls _ _).mono ?_); rintro e w' ⟨rfl, rfl⟩))
                go_roundw
                case rel => exact ⟨1, by decide, by go_num, Lib.hid (fun _ => HG.out), Lib.hid (fun h => absurd h (by decide)), Lib.hid (fun h => absurd h (by decide)), Lib.hid (fun h => absurd h (by decide)), Lib.hid (fun h => absurd h (by decide)), Lib.hid (fun h => absurd h (by decide))⟩
                case measure => simp [intOf]
            · obtain ⟨b1, q1⟩ : ∃ b, fits m.b = b := ⟨_, rfl⟩
              cases b1
              · have HTL := Lib.hid (show tL = false by rw [← HLT.out]; exact letters_bad (by simp [q1]))
                have H := Lib.hid (show itemB true true tL tN tP tS tM 4 fn pl bl = false by rw [HTL.out]; simp [itemB])
                go_wp2_with (go_at_call 25; ((with_reducible refine (Rfix.fits_calls _ _).mono ?_); rintro e w' ⟨rfl, rfl⟩))
                go_ret
                exact ⟨by rw [H.out]; rfl, by (repeat' (first | (with_reducible first | exact Up.refl _ | assumption | refine Up.alloc ?_ _ | refine Up.drew ?_ | refine Up.drewN ?_ _ | refine Up.setCell ?_ ?_ _ | refine Up.call ?_ (by assumption)) | go_size))⟩
              · have HG := Lib.hid q1
                go_wp2_with (go_at_call 25; ((with_reducible refine (Rfix.fits_calls _ _).mono ?_); rintro e w' ⟨rfl, rfl⟩))
                go_roundw
                case rel => exact ⟨2, by decide, by go_num, Lib.hid (fun _ => HM0.out (by decide)), Lib.hid (fun _ => HG.out), Lib.hid (fun h => absurd h (by decide)), Lib.hid (fun h => absurd h (by decide)), Lib.hid (fun h => absurd h (by decide)), Lib.hid (fun h => absurd h (by decide))⟩
                case measure => simp [intOf]
            · obtain ⟨b1, q1⟩ : ∃ b, fits m.c = b := ⟨_, rfl⟩
              cases b1
              · have HTL := Lib.hid (show tL = false by rw [← HLT.out]; exact letters_bad (by simp [q1]))
                have H := Lib.hid (show itemB true true tL tN tP tS tM 4 fn pl bl = false by rw [HTL.out]; simp [itemB])
                go_wp2_with (go_at_call 25; ((with_reducible refine (Rfix.fits_calls _ _).mono ?_); rintro e w' ⟨rfl, rfl⟩))
                go_ret
                exact ⟨by rw [H.out]; rfl, by (repeat' (first | (with_reducible first | exact Up.refl _ | assumption | refine Up.alloc ?_ _ | refine Up.drew ?_ | refine Up.drewN ?_ _ | refine Up.setCell ?_ ?_ _ | refine Up.call ?_ (by assumption)) | go_size))⟩
              · have HG := Lib.hid q1
                go_wp2_with (go_at_call 25; ((with_reducible refine (Rfix.fits_calls _ _).mono ?_); rintro e w' ⟨rfl, rfl⟩))
                go_roundw
                case rel => exact ⟨3, by decide, by go_num, Lib.hid (fun _ => HM0.out (by decide)), Lib.hid (fun _ => HM1.out (by decide)), Lib.hid (fun _ => HG.out), Lib.hid (fun h => absurd h (by decide)), Lib.hid (fun h => absurd h (by decide)), Lib.hid (fun h => absurd h (by decide))⟩
                case measure => simp [intOf]
            · obtain ⟨b1, q1⟩ : ∃ b, fits m.d = b := ⟨_, rfl⟩
              cases b1
              · have HTL := Lib.hid (show tL = false by rw [← HLT.out]; exact letters_bad (by simp [q1]))
                have H := Lib.hid (show itemB true true tL tN tP tS tM 4 fn pl bl = false by rw [HTL.out]; simp [itemB])
                go_wp2_with (go_at_call 25; ((with_reducible refine (Rfix.fits_calls _ _).mono ?_); rintro e w' ⟨rfl, rfl⟩))
                go_ret
                exact ⟨by rw [H.out]; rfl, by (repeat' (first | (with_reducible first | exact Up.refl _ | assumption | refine Up.alloc ?_ _ | refine Up.drew ?_ | refine Up.drewN ?_ _ | refine Up.setCell ?_ ?_ _ | refine Up.call ?_ (by assumption)) | go_size))⟩
              · have HG := Lib.hid q1
                go_wp2_with (go_at_call 25; ((with_reducible refine (Rfix.fits_calls _ _).mono ?_); rintro e w' ⟨rfl, rfl⟩))
                go_roundw
                case rel => exact ⟨4, by decide, by go_num, Lib.hid (fun _ => HM0.out (by decide)), Lib.hid (fun _ => HM1.out (by decide)), Lib.hid (fun _ => HM2.out (by decide)), Lib.hid (fun _ => HG.out), Lib.hid (fun h => absurd h (by decide)), Lib.hid (fun h => absurd h (by decide))⟩
                case measure => simp [intOf]
            · obtain ⟨b1, q1⟩ : ∃ b, fits m.x = b := ⟨_, rfl⟩
              cases b1
              · have HTL := Lib.hid (show tL = false by rw [← HLT.out]; exact letters_bad (by simp [q1]))
                have H := Lib.hid (show itemB true true tL tN tP tS tM 4 fn pl bl = false by rw [HTL.out]; simp [itemB])
                go_wp2_with (go_at_call 25; ((with_reducible refine (Rfix.fits_calls _ _).mono ?_); rintro e w' ⟨rfl, rfl⟩))
                go_ret
                exact ⟨by rw [H.out]; rfl, by (repeat' (first | (with_reducible first | exact Up.refl _ | assumption | refine Up.alloc ?_ _ | refine Up.drew ?_ | refine Up.drewN ?_ _ | refine Up.setCell ?_ ?_ _ | refine Up.call ?_ (by assumption)) | go_size))⟩
              · have HG := Lib.hid q1
                go_wp2_with (go_at_call 25; ((with_reducible refine (Rfix.fits_calls _ _).mono ?_); rintro e w' ⟨rfl, rfl⟩))
                go_roundw
                case rel => exact ⟨5, by decide, by go_num, Lib.hid (fun _ => HM0.out (by decide)), Lib.hid (fun _ => HM1.out (by decide)), Lib.hid (fun _ => HM2.out (by decide)), Lib.hid (fun _ => HM3.out (by decide)), Lib.hid (fun _ => HG.out), Lib.hid (fun h => absurd h (by decide))⟩
                case measure => simp [intOf]
            · obtain ⟨b1, q1⟩ : ∃ b, fits m.y = b := ⟨_, rfl⟩
              cases b1
              · have HTL := Lib.hid (show tL = false by rw [← HLT.out]; exact letters_bad (by simp [q1]))
                have H := Lib.hid (show itemB true true tL tN tP tS tM 4 fn pl bl = false by rw [HTL.out]; simp [itemB])
                go_wp2_with (go_at_call 25; ((with_reducible refine (Rfix.fits_calls _ _).mono ?_); rintro e w' ⟨rfl, rfl⟩))
                go_ret
                exact ⟨by rw [H.out]; rfl, by (repeat' (first | (with_reducible first | exact Up.refl _ | assumption | refine Up.alloc ?_ _ | refine Up.drew ?_ | refine Up.drewN ?_ _ | refine Up.setCell ?_ ?_ _ | refine Up.call ?_ (by assumption)) | go_size))⟩
              · have HG := Lib.hid q1
                go_wp2_with (go_at_call 25; ((with_reducible refine (Rfix.fits_calls _ _).mono ?_); rintro e w' ⟨rfl, rfl⟩))
                go_roundw
                case rel => exact ⟨6, by decide, by go_num, Lib.hid (fun _ => HM0.out (by decide)), Lib.hid (fun _ => HM1.out (by decide)), Lib.hid (fun _ => HM2.out (by decide)), Lib.hid (fun _ => HM3.out (by decide)), Lib.hid (fun _ => HM4.out (by decide)), Lib.hid (fun _ => HG.out)⟩
                case measure => simp [intOf]
            · have HALL := Lib.hid (show ((lM m).any fun n => !fits n) = false by simp [lM, HM0.out (by decide), HM1.out (by decide), HM2.out (by decide), HM3.out (by decide), HM4.out (by decide), HM5.out (by decide)])
              obtain ⟨b_g1, g1⟩ : ∃ b, (decide (0 ≤ fn)) = b := ⟨_, rfl⟩
              cases b_g1
              · have HTL := Lib.hid (show tL = false by rw [← HLT.out]; exact letters_val HALL.out (by simp [g1]))
                have H := Lib.hid (show itemB true true tL tN tP tS tM 4 fn pl bl = false by rw [HTL.out]; simp [itemB])
                go_wp2
                go_ret
                exact ⟨by rw [H.out]; rfl, by (repeat' (first | (with_reducible first | exact Up.refl _ | assumption | refine Up.alloc ?_ _ | refine Up.drew ?_ | refine Up.drewN ?_ _ | refine Up.setCell ?_ ?_ _ | refine Up.call ?_ (by assumption)) | go_size))⟩
              obtain ⟨b_g2, g2⟩ : ∃ b, (decide (fn ≤ 13)) = b := ⟨_, rfl⟩
              cases b_g2
              · have HTL := Lib.hid (show tL = false by rw [← HLT.out]; exact letters_val HALL.out (by simp [g1, g2]))
                have H := Lib.hid (show itemB true true tL tN tP tS tM 4 fn pl bl = false by rw [HTL.out]; simp [itemB])
                go_wp2
                go_ret
                exact ⟨by rw [H.out]; rfl, by (repeat' (first | (with_reducible first | exact Up.refl _ | assumption | refine Up.alloc ?_ _ | refine Up.drew ?_ | refine Up.drewN ?_ _ | refine Up.setCell ?_ ?_ _ | refine Up.call ?_ (by assumption)) | go_size))⟩
              obtain ⟨b_g3, g3⟩ : ∃ b, (decide ((1 : Int) ≤ (bl : Int))) = b := ⟨_, rfl⟩
              cases b_g3
              · have HTL := Lib.hid (show tL = false by rw [← HLT.out]; exact letters_val HALL.out (by simp [g1, g2, g3]))
                have H := Lib.hid (show itemB true true tL tN tP tS tM 4 fn pl bl = false by rw [HTL.out]; simp [itemB])
                go_wp2
                go_ret
                exact ⟨by rw [H.out]; rfl, by (repeat' (first | (with_reducible first | exact Up.refl _ | assumption | refine Up.alloc ?_ _ | refine Up.drew ?_ | refine Up.drewN ?_ _ | refine Up.setCell ?_ ?_ _ | refine Up.call ?_ (by assumption)) | go_size))⟩
              obtain ⟨b_g4, g4⟩ : ∃ b, (decide ((bl : Int) ≤ 65535)) = b := ⟨_, rfl⟩
              cases b_g4
              · have HTL := Lib.hid (show tL = false by rw [← HLT.out]; exact letters_val HALL.out (by simp [g1, g2, g3, g4]))
                have H := Lib.hid (show itemB true true tL tN tP tS tM 4 fn pl bl = false by rw [HTL.out]; simp [itemB])
                go_wp2
                go_ret
                exact ⟨by rw [H.out]; rfl, by (repeat' (first | (with_reducible first | exact Up.refl _ | assumption | refine Up.alloc ?_ _ | refine Up.drew ?_ | refine Up.drewN ?_ _ | refine Up.setCell ?_ ?_ _ | refine Up.call ?_ (by assumption)) | go_size))⟩
              obtain ⟨b_g5, g5⟩ : ∃ b, ((pl : Int) == 0) = b := ⟨_, rfl⟩
              cases b_g5
              · have HTL := Lib.hid (show tL = true by rw [← HLT.out]; exact letters_val HALL.out (by simp [g1, g2, g3, g4]))
                have H := Lib.hid (show itemB true true tL tN tP tS tM 4 fn pl bl = false by rw [HTL.out]; simp [itemB, g5])
                go_wp2
                go_ret
                exact ⟨by rw [H.out]; rfl, by (repeat' (first | (with_reducible first | exact Up.refl _ | assumption | refine Up.alloc ?_ _ | refine Up.drew ?_ | refine Up.drewN ?_ _ | refine Up.setCell ?_ ?_ _ | refine Up.call ?_ (by assumption)) | go_size))⟩
              have HTL := Lib.hid (show tL = true by rw [← HLT.out]; exact letters_val HALL.out (by simp [g1, g2, g3, g4]))
              have H := Lib.hid (show itemB true true tL tN tP tS tM 4 fn pl bl = tN by rw [HTL.out]; simp [itemB, g5])
              go_wp2
              go_ret
              exact ⟨by rw [H.out]; rfl, by (repeat' (first | (with_reducible first | exact Up.refl _ | assumption | refine Up.alloc ?_ _ | refine Up.drew ?_ | refine Up.drewN ?_ _ | refine Up.setCell ?_ ?_ _ | refine Up.call ?_ (by assumption)) | go_size))⟩
        have e4 : (k == 4) = false := by simpa using hk
        obtain ⟨b_k1, k1⟩ : ∃ b, decide (k < 1) = b := ⟨_, rfl⟩
        cases b_k1
        rotate_left
        · have H := Lib.hid (show itemB true true tL tN tP tS tM k fn pl bl = false by have h1 : k < 1 := (by simpa using k1); have a1 : ¬ k = 1 := (by omega); have a2 : ¬ k = 2 := (by omega); have a3 : ¬ k = 3 := (by omega); simp [itemB, hk, a1, a2, a3])
          go_wp2_with (first
            | (go_at_call 24; ((with_reducible refine (samePen_calls wd cp jn mt ph da dl dc _).mono ?_); rw [HNO.out]; rintro E w4 ⟨rfl, hu4⟩; have z4 := hu4.size; (try simp at z4); have Rw4 : Row w4 w.heap.size #[.int .i64 k, .slice pa pl pc, .int .i64 3, .int .i64 p0, .int .i64 p1, .int .i64 p2, .int .i64 p3, .slice ca cl cc, .int .i64 wd, .int .i64 cp, .int .i64 jn, .int .i64 mt, .slice da dl dc, .int .i64 ph, .int .i64 fn, .int .i64 m.a, .int .i64 m.b, .int .i64 m.c, .int .i64 m.d, .int .i64 m.x, .int .i64 m.y, .slice ba bl bc] := Row.up (show Row _ w.heap.size #[.int .i64 k, .slice pa pl pc, .int .i64 3, .int .i64 p0, .int .i64 p1, .int .i64 p2, .int .i64 p3, .slice ca cl cc, .int .i64 wd, .int .i64 cp, .int .i64 jn, .int .i64 mt, .slice da dl dc, .int .i64 ph, .int .i64 fn, .int .i64 m.a, .int .i64 m.b, .int .i64 m.c, .int .i64 m.d, .int .i64 m.x, .int .i64 m.y, .slice ba bl bc] by (repeat' (with_reducible first | assumption | (refine Row.at _ _ ?_; (simp; done)) | refine Row.alloc ?_ _ | refine Row.drew ?_ | refine Row.drewN ?_ _ | refine Row.other ?_ (by first | (simp; done) | (simp; omega) | omega) _ | refine Row.up ?_ (by assumption) | refine Row.chg ?_ (by assumption) (by first | (simp; done) | (simp; omega))))) hu4; have lw4 := Rw4.lt; have qw4_0 : w4.cell? ⟨w.heap.size, 0, none⟩ = some (.int .i64 k) := Rw4.cell 0 rfl; have qw4_1 : w4.cell? ⟨w.heap.size, 1, none⟩ = some (.slice pa pl pc) := Rw4.cell 1 rfl; have qw4_7 : w4.cell? ⟨w.heap.size, 7, none⟩ = some (.slice ca cl cc) := Rw4.cell 7 rfl; have qw4_8 : w4.cell? ⟨w.heap.size, 8, none⟩ = some (.int .i64 wd) := Rw4.cell 8 rfl; have qw4_9 : w4.cell? ⟨w.heap.size, 9, none⟩ = some (.int .i64 cp) := Rw4.cell 9 rfl; have qw4_10 : w4.cell? ⟨w.heap.size, 10, none⟩ = some (.int .i64 jn) := Rw4.cell 10 rfl; have qw4_11 : w4.cell? ⟨w.heap.size, 11, none⟩ = some (.int .i64 mt) := Rw4.cell 11 rfl; have qw4_12 : w4.cell? ⟨w.heap.size, 12, none⟩ = some (.slice da dl dc) := Rw4.cell 12 rfl; have qw4_13 : w4.cell? ⟨w.heap.size, 13, none⟩ = some (.int .i64 ph) := Rw4.cell 13 rfl; have qw4_14 : w4.cell? ⟨w.heap.size, 14, none⟩ = some (.int .i64 fn) := Rw4.cell 14 rfl; have qw4_15 : w4.cell? ⟨w.heap.size, 15, none⟩ = some (.int .i64 m.a) := Rw4.cell 15 rfl; have qw4_16 : w4.cell? ⟨w.heap.size, 16, none⟩ = some (.int .i64 m.b) := Rw4.cell 16 rfl; have qw4_17 : w4.cell? ⟨w.heap.size, 17, none⟩ = some (.int .i64 m.c) := Rw4.cell 17 rfl; have qw4_18 : w4.cell? ⟨w.heap.size, 18, none⟩ = some (.int .i64 m.d) := Rw4.cell 18 rfl; have qw4_19 : w4.cell? ⟨w.heap.size, 19, none⟩ = some (.int .i64 m.x) := Rw4.cell 19 rfl; have qw4_20 : w4.cell? ⟨w.heap.size, 20, none⟩ = some (.int .i64 m.y) := Rw4.cell 20 rfl; have qw4_21 : w4.cell? ⟨w.heap.size, 21, none⟩ = some (.slice ba bl bc) := Rw4.cell 21 rfl; have u4 : Up w w4 := (by (repeat' (first | (with_reducible first | exact Up.refl _ | assumption | refine Up.alloc ?_ _ | refine Up.drew ?_ | refine Up.drewN ?_ _ | refine Up.setCell ?_ ?_ _ | refine Up.call ?_ (by assumption)) | go_size))))))
          go_ret
          exact ⟨by rw [H.out]; rfl, by (repeat' (first | (with_reducible first | exact Up.refl _ | assumption | refine Up.alloc ?_ _ | refine Up.drew ?_ | refine Up.drewN ?_ _ | refine Up.setCell ?_ ?_ _ | refine Up.call ?_ (by assumption)) | go_size))⟩
        obtain ⟨b_k3, k3⟩ : ∃ b, decide (3 < k) = b := ⟨_, rfl⟩
        cases b_k3
        rotate_left
        · have H := Lib.hid (show itemB true true tL tN tP tS tM k fn pl bl = false by have h1 : 3 < k := (by simpa using k3); have a1 : ¬ k = 1 := (by omega); have a2 : ¬ k = 2 := (by omega); have a3 : ¬ k = 3 := (by omega); simp [itemB, hk, a1, a2, a3])
          go_wp2_with (first
            | (go_at_call 24; ((with_reducible refine (samePen_calls wd cp jn mt ph da dl dc _).mono ?_); rw [HNO.out]; rintro E w4 ⟨rfl, hu4⟩; have z4 := hu4.size; (try simp at z4); have Rw4 : Row w4 w.heap.size #[.int .i64 k, .slice pa pl pc, .int .i64 3, .int .i64 p0, .int .i64 p1, .int .i64 p2, .int .i64 p3, .slice ca cl cc, .int .i64 wd, .int .i64 cp, .int .i64 jn, .int .i64 mt, .slice da dl dc, .int .i64 ph, .int .i64 fn, .int .i64 m.a, .int .i64 m.b, .int .i64 m.c, .int .i64 m.d, .int .i64 m.x, .int .i64 m.y, .slice ba bl bc] := Row.up (show Row _ w.heap.size #[.int .i64 k, .slice pa pl pc, .int .i64 3, .int .i64 p0, .int .i64 p1, .int .i64 p2, .int .i64 p3, .slice ca cl cc, .int .i64 wd, .int .i64 cp, .int .i64 jn, .int .i64 mt, .slice da dl dc, .int .i64 ph, .int .i64 fn, .int .i64 m.a, .int .i64 m.b, .int .i64 m.c, .int .i64 m.d, .int .i64 m.x, .int .i64 m.y, .slice ba bl bc] by (repeat' (with_reducible first | assumption | (refine Row.at _ _ ?_; (simp; done)) | refine Row.alloc ?_ _ | refine Row.drew ?_ | refine Row.drewN ?_ _ | refine Row.other ?_ (by first | (simp; done) | (simp; omega) | omega) _ | refine Row.up ?_ (by assumption) | refine Row.chg ?_ (by assumption) (by first | (simp; done) | (simp; omega))))) hu4; have lw4 := Rw4.lt; have qw4_0 : w4.cell? ⟨w.heap.size, 0, none⟩ = some (.int .i64 k) := Rw4.cell 0 rfl; have qw4_1 : w4.cell? ⟨w.heap.size, 1, none⟩ = some (.slice pa pl pc) := Rw4.cell 1 rfl; have qw4_7 : w4.cell? ⟨w.heap.size, 7, none⟩ = some (.slice ca cl cc) := Rw4.cell 7 rfl; have qw4_8 : w4.cell? ⟨w.heap.size, 8, none⟩ = some (.int .i64 wd) := Rw4.cell 8 rfl; have qw4_9 : w4.cell? ⟨w.heap.size, 9, none⟩ = some (.int .i64 cp) := Rw4.cell 9 rfl; have qw4_10 : w4.cell? ⟨w.heap.size, 10, none⟩ = some (.int .i64 jn) := Rw4.cell 10 rfl; have qw4_11 : w4.cell? ⟨w.heap.size, 11, none⟩ = some (.int .i64 mt) := Rw4.cell 11 rfl; have qw4_12 : w4.cell? ⟨w.heap.size, 12, none⟩ = some (.slice da dl dc) := Rw4.cell 12 rfl; have qw4_13 : w4.cell? ⟨w.heap.size, 13, none⟩ = some (.int .i64 ph) := Rw4.cell 13 rfl; have qw4_14 : w4.cell? ⟨w.heap.size, 14, none⟩ = some (.int .i64 fn) := Rw4.cell 14 rfl; have qw4_15 : w4.cell? ⟨w.heap.size, 15, none⟩ = some (.int .i64 m.a) := Rw4.cell 15 rfl; have qw4_16 : w4.cell? ⟨w.heap.size, 16, none⟩ = some (.int .i64 m.b) := Rw4.cell 16 rfl; have qw4_17 : w4.cell? ⟨w.heap.size, 17, none⟩ = some (.int .i64 m.c) := Rw4.cell 17 rfl; have qw4_18 : w4.cell? ⟨w.heap.size, 18, none⟩ = some (.int .i64 m.d) := Rw4.cell 18 rfl; have qw4_19 : w4.cell? ⟨w.heap.size, 19, none⟩ = some (.int .i64 m.x) := Rw4.cell 19 rfl; have qw4_20 : w4.cell? ⟨w.heap.size, 20, none⟩ = some (.int .i64 m.y) := Rw4.cell 20 rfl; have qw4_21 : w4.cell? ⟨w.heap.size, 21, none⟩ = some (.slice ba bl bc) := Rw4.cell 21 rfl; have u4 : Up w w4 := (by (repeat' (first | (with_reducible first | exact Up.refl _ | assumption | refine Up.alloc ?_ _ | refine Up.drew ?_ | refine Up.drewN ?_ _ | refine Up.setCell ?_ ?_ _ | refine Up.call ?_ (by assumption)) | go_size))))))
          go_ret
          exact ⟨by rw [H.out]; rfl, by (repeat' (first | (with_reducible first | exact Up.refl _ | assumption | refine Up.alloc ?_ _ | refine Up.drew ?_ | refine Up.drewN ?_ _ | refine Up.setCell ?_ ?_ _ | refine Up.call ?_ (by assumption)) | go_size))⟩
        obtain ⟨b_h2, h2⟩ : ∃ b, (fn != 0) = b := ⟨_, rfl⟩
        cases b_h2
        rotate_left
        · have H := Lib.hid (show (itemB true true tL tN tP tS tM k fn pl bl) = false by simp only [itemB, hk, h2] <;> simp)
          go_wp2_with (first
            | (go_at_call 24; ((with_reducible refine (samePen_calls wd cp jn mt ph da dl dc _).mono ?_); rw [HNO.out]; rintro E w4 ⟨rfl, hu4⟩; have z4 := hu4.size; (try simp at z4); have Rw4 : Row w4 w.heap.size #[.int .i64 k, .slice pa pl pc, .int .i64 3, .int .i64 p0, .int .i64 p1, .int .i64 p2, .int .i64 p3, .slice ca cl cc, .int .i64 wd, .int .i64 cp, .int .i64 jn, .int .i64 mt, .slice da dl dc, .int .i64 ph, .int .i64 fn, .int .i64 m.a, .int .i64 m.b, .int .i64 m.c, .int .i64 m.d, .int .i64 m.x, .int .i64 m.y, .slice ba bl bc] := Row.up (show Row _ w.heap.size #[.int .i64 k, .slice pa pl pc, .int .i64 3, .int .i64 p0, .int .i64 p1, .int .i64 p2, .int .i64 p3, .slice ca cl cc, .int .i64 wd, .int .i64 cp, .int .i64 jn, .int .i64 mt, .slice da dl dc, .int .i64 ph, .int .i64 fn, .int .i64 m.a, .int .i64 m.b, .int .i64 m.c, .int .i64 m.d, .int .i64 m.x, .int .i64 m.y, .slice ba bl bc] by (repeat' (with_reducible first | assumption | (refine Row.at _ _ ?_; (simp; done)) | refine Row.alloc ?_ _ | refine Row.drew ?_ | refine Row.drewN ?_ _ | refine Row.other ?_ (by first | (simp; done) | (simp; omega) | omega) _ | refine Row.up ?_ (by assumption) | refine Row.chg ?_ (by assumption) (by first | (simp; done) | (simp; omega))))) hu4; have lw4 := Rw4.lt; have qw4_0 : w4.cell? ⟨w.heap.size, 0, none⟩ = some (.int .i64 k) := Rw4.cell 0 rfl; have qw4_1 : w4.cell? ⟨w.heap.size, 1, none⟩ = some (.slice pa pl pc) := Rw4.cell 1 rfl; have qw4_7 : w4.cell? ⟨w.heap.size, 7, none⟩ = some (.slice ca cl cc) := Rw4.cell 7 rfl; have qw4_8 : w4.cell? ⟨w.heap.size, 8, none⟩ = some (.int .i64 wd) := Rw4.cell 8 rfl; have qw4_9 : w4.cell? ⟨w.heap.size, 9, none⟩ = some (.int .i64 cp) := Rw4.cell 9 rfl; have qw4_10 : w4.cell? ⟨w.heap.size, 10, none⟩ = some (.int .i64 jn) := Rw4.cell 10 rfl; have qw4_11 : w4.cell? ⟨w.heap.size, 11, none⟩ = some (.int .i64 mt) := Rw4.cell 11 rfl; have qw4_12 : w4.cell? ⟨w.heap.size, 12, none⟩ = some (.slice da dl dc) := Rw4.cell 12 rfl; have qw4_13 : w4.cell? ⟨w.heap.size, 13, none⟩ = some (.int .i64 ph) := Rw4.cell 13 rfl; have qw4_14 : w4.cell? ⟨w.heap.size, 14, none⟩ = some (.int .i64 fn) := Rw4.cell 14 rfl; have qw4_15 : w4.cell? ⟨w.heap.size, 15, none⟩ = some (.int .i64 m.a) := Rw4.cell 15 rfl; have qw4_16 : w4.cell? ⟨w.heap.size, 16, none⟩ = some (.int .i64 m.b) := Rw4.cell 16 rfl; have qw4_17 : w4.cell? ⟨w.heap.size, 17, none⟩ = some (.int .i64 m.c) := Rw4.cell 17 rfl; have qw4_18 : w4.cell? ⟨w.heap.size, 18, none⟩ = some (.int .i64 m.d) := Rw4.cell 18 rfl; have qw4_19 : w4.cell? ⟨w.heap.size, 19, none⟩ = some (.int .i64 m.x) := Rw4.cell 19 rfl; have qw4_20 : w4.cell? ⟨w.heap.size, 20, none⟩ = some (.int .i64 m.y) := Rw4.cell 20 rfl; have qw4_21 : w4.cell? ⟨w.heap.size, 21, none⟩ = some (.slice ba bl bc) := Rw4.cell 21 rfl; have u4 : Up w w4 := (by (repeat' (first | (with_reducible first | exact Up.refl _ | assumption | refine Up.alloc ?_ _ | refine Up.drew ?_ | refine Up.drewN ?_ _ | refine Up.setCell ?_ ?_ _ | refine Up.call ?_ (by assumption)) | go_size))))))
          go_ret
          exact ⟨by rw [H.out]; rfl, by (repeat' (first | (with_reducible first | exact Up.refl _ | assumption | refine Up.alloc ?_ _ | refine Up.drew ?_ | refine Up.drewN ?_ _ | refine Up.setCell ?_ ?_ _ | refine Up.call ?_ (by assumption)) | go_size))⟩
        cases tM
        · have H := Lib.hid (show (itemB true true tL tN tP tS false k fn pl bl) = false by simp only [itemB, hk, h2] <;> simp)
          go_wp2_with (first
            | (go_at_call 24; ((with_reducible refine (samePen_calls wd cp jn mt ph da dl dc _).mono ?_); rw [HNO.out]; rintro E w4 ⟨rfl, hu4⟩; have z4 := hu4.size; (try simp at z4); have Rw4 : Row w4 w.heap.size #[.int .i64 k, .slice pa pl pc, .int .i64 3, .int .i64 p0, .int .i64 p1, .int .i64 p2, .int .i64 p3, .slice ca cl cc, .int .i64 wd, .int .i64 cp, .int .i64 jn, .int .i64 mt, .slice da dl dc, .int .i64 ph, .int .i64 fn, .int .i64 m.a, .int .i64 m.b, .int .i64 m.c, .int .i64 m.d, .int .i64 m.x, .int .i64 m.y, .slice ba bl bc] := Row.up (show Row _ w.heap.size #[.int .i64 k, .slice pa pl pc, .int .i64 3, .int .i64 p0, .int .i64 p1, .int .i64 p2, .int .i64 p3, .slice ca cl cc, .int .i64 wd, .int .i64 cp, .int .i64 jn, .int .i64 mt, .slice da dl dc, .int .i64 ph, .int .i64 fn, .int .i64 m.a, .int .i64 m.b, .int .i64 m.c, .int .i64 m.d, .int .i64 m.x, .int .i64 m.y, .slice ba bl bc] by (repeat' (with_reducible first | assumption | (refine Row.at _ _ ?_; (simp; done)) | refine Row.alloc ?_ _ | refine Row.drew ?_ | refine Row.drewN ?_ _ | refine Row.other ?_ (by first | (simp; done) | (simp; omega) | omega) _ | refine Row.up ?_ (by assumption) | refine Row.chg ?_ (by assumption) (by first | (simp; done) | (simp; omega))))) hu4; have lw4 := Rw4.lt; have qw4_0 : w4.cell? ⟨w.heap.size, 0, none⟩ = some (.int .i64 k) := Rw4.cell 0 rfl; have qw4_1 : w4.cell? ⟨w.heap.size, 1, none⟩ = some (.slice pa pl pc) := Rw4.cell 1 rfl; have qw4_7 : w4.cell? ⟨w.heap.size, 7, none⟩ = some (.slice ca cl cc) := Rw4.cell 7 rfl; have qw4_8 : w4.cell? ⟨w.heap.size, 8, none⟩ = some (.int .i64 wd) := Rw4.cell 8 rfl; have qw4_9 : w4.cell? ⟨w.heap.size, 9, none⟩ = some (.int .i64 cp) := Rw4.cell 9 rfl; have qw4_10 : w4.cell? ⟨w.heap.size, 10, none⟩ = some (.int .i64 jn) := Rw4.cell 10 rfl; have qw4_11 : w4.cell? ⟨w.heap.size, 11, none⟩ = some (.int .i64 mt) := Rw4.cell 11 rfl; have qw4_12 : w4.cell? ⟨w.heap.size, 12, none⟩ = some (.slice da dl dc) := Rw4.cell 12 rfl; have qw4_13 : w4.cell? ⟨w.heap.size, 13, none⟩ = some (.int .i64 ph) := Rw4.cell 13 rfl; have qw4_14 : w4.cell? ⟨w.heap.size, 14, none⟩ = some (.int .i64 fn) := Rw4.cell 14 rfl; have qw4_15 : w4.cell? ⟨w.heap.size, 15, none⟩ = some (.int .i64 m.a) := Rw4.cell 15 rfl; have qw4_16 : w4.cell? ⟨w.heap.size, 16, none⟩ = some (.int .i64 m.b) := Rw4.cell 16 rfl; have qw4_17 : w4.cell? ⟨w.heap.size, 17, none⟩ = some (.int .i64 m.c) := Rw4.cell 17 rfl; have qw4_18 : w4.cell? ⟨w.heap.size, 18, none⟩ = some (.int .i64 m.d) := Rw4.cell 18 rfl; have qw4_19 : w4.cell? ⟨w.heap.size, 19, none⟩ = some (.int .i64 m.x) := Rw4.cell 19 rfl; have qw4_20 : w4.cell? ⟨w.heap.size, 20, none⟩ = some (.int .i64 m.y) := Rw4.cell 20 rfl; have qw4_21 : w4.cell? ⟨w.heap.size, 21, none⟩ = some (.slice ba bl bc) := Rw4.cell 21 rfl; have u4 : Up w w4 := (by (repeat' (first | (with_reducible first | exact Up.refl _ | assumption | refine Up.alloc ?_ _ | refine Up.drew ?_ | refine Up.drewN ?_ _ | refine Up.setCell ?_ ?_ _ | refine Up.call ?_ (by assumption)) | go_size))))))
          go_ret
          exact ⟨by rw [H.out]; rfl, by (repeat' (first | (with_reducible first | exact Up.refl _ | assumption | refine Up.alloc ?_ _ | refine Up.drew ?_ | refine Up.drewN ?_ _ | refine Up.setCell ?_ ?_ _ | refine Up.call ?_ (by assumption)) | go_size))⟩
        obtain ⟨b_h3, h3⟩ : ∃ b, (decide (0 < bl)) = b := ⟨_, rfl⟩
        cases b_h3
        rotate_left
        · have H := Lib.hid (show (itemB true true tL tN tP tS true k fn pl bl) = false by simp only [itemB, hk, h2, h3] <;> simp)
          go_wp2_with (first
            | (go_at_call 24; ((with_reducible refine (samePen_calls wd cp jn mt ph da dl dc _).mono ?_); rw [HNO.out]; rintro E w4 ⟨rfl, hu4⟩; have z4 := hu4.size; (try simp at z4); have Rw4 : Row w4 w.heap.size #[.int .i64 k, .slice pa pl pc, .int .i64 3, .int .i64 p0, .int .i64 p1, .int .i64 p2, .int .i64 p3, .slice ca cl cc, .int .i64 wd, .int .i64 cp, .int .i64 jn, .int .i64 mt, .slice da dl dc, .int .i64 ph, .int .i64 fn, .int .i64 m.a, .int .i64 m.b, .int .i64 m.c, .int .i64 m.d, .int .i64 m.x, .int .i64 m.y, .slice ba bl bc] := Row.up (show Row _ w.heap.size #[.int .i64 k, .slice pa pl pc, .int .i64 3, .int .i64 p0, .int .i64 p1, .int .i64 p2, .int .i64 p3, .slice ca cl cc, .int .i64 wd, .int .i64 cp, .int .i64 jn, .int .i64 mt, .slice da dl dc, .int .i64 ph, .int .i64 fn, .int .i64 m.a, .int .i64 m.b, .int .i64 m.c, .int .i64 m.d, .int .i64 m.x, .int .i64 m.y, .slice ba bl bc] by (repeat' (with_reducible first | assumption | (refine Row.at _ _ ?_; (simp; done)) | refine Row.alloc ?_ _ | refine Row.drew ?_ | refine Row.drewN ?_ _ | refine Row.other ?_ (by first | (simp; done) | (simp; omega) | omega) _ | refine Row.up ?_ (by assumption) | refine Row.chg ?_ (by assumption) (by first | (simp; done) | (simp; omega))))) hu4; have lw4 := Rw4.lt; have qw4_0 : w4.cell? ⟨w.heap.size, 0, none⟩ = some (.int .i64 k) := Rw4.cell 0 rfl; have qw4_1 : w4.cell? ⟨w.heap.size, 1, none⟩ = some (.slice pa pl pc) := Rw4.cell 1 rfl; have qw4_7 : w4.cell? ⟨w.heap.size, 7, none⟩ = some (.slice ca cl cc) := Rw4.cell 7 rfl; have qw4_8 : w4.cell? ⟨w.heap.size, 8, none⟩ = some (.int .i64 wd) := Rw4.cell 8 rfl; have qw4_9 : w4.cell? ⟨w.heap.size, 9, none⟩ = some (.int .i64 cp) := Rw4.cell 9 rfl; have qw4_10 : w4.cell? ⟨w.heap.size, 10, none⟩ = some (.int .i64 jn) := Rw4.cell 10 rfl; have qw4_11 : w4.cell? ⟨w.heap.size, 11, none⟩ = some (.int .i64 mt) := Rw4.cell 11 rfl; have qw4_12 : w4.cell? ⟨w.heap.size, 12, none⟩ = some (.slice da dl dc) := Rw4.cell 12 rfl; have qw4_13 : w4.cell? ⟨w.heap.size, 13, none⟩ = some (.int .i64 ph) := Rw4.cell 13 rfl; have qw4_14 : w4.cell? ⟨w.heap.size, 14, none⟩ = some (.int .i64 fn) := Rw4.cell 14 rfl; have qw4_15 : w4.cell? ⟨w.heap.size, 15, none⟩ = some (.int .i64 m.a) := Rw4.cell 15 rfl; have qw4_16 : w4.cell? ⟨w.heap.size, 16, none⟩ = some (.int .i64 m.b) := Rw4.cell 16 rfl; have qw4_17 : w4.cell? ⟨w.heap.size, 17, none⟩ = some (.int .i64 m.c) := Rw4.cell 17 rfl; have qw4_18 : w4.cell? ⟨w.heap.size, 18, none⟩ = some (.int .i64 m.d) := Rw4.cell 18 rfl; have qw4_19 : w4.cell? ⟨w.heap.size, 19, none⟩ = some (.int .i64 m.x) := Rw4.cell 19 rfl; have qw4_20 : w4.cell? ⟨w.heap.size, 20, none⟩ = some (.int .i64 m.y) := Rw4.cell 20 rfl; have qw4_21 : w4.cell? ⟨w.heap.size, 21, none⟩ = some (.slice ba bl bc) := Rw4.cell 21 rfl; have u4 : Up w w4 := (by (repeat' (first | (with_reducible first | exact Up.refl _ | assumption | refine Up.alloc ?_ _ | refine Up.drew ?_ | refine Up.drewN ?_ _ | refine Up.setCell ?_ ?_ _ | refine Up.call ?_ (by assumption)) | go_size))))))
          go_ret
          exact ⟨by rw [H.out]; rfl, by (repeat' (first | (with_reducible first | exact Up.refl _ | assumption | refine Up.alloc ?_ _ | refine Up.drew ?_ | refine Up.drewN ?_ _ | refine Up.setCell ?_ ?_ _ | refine Up.call ?_ (by assumption)) | go_size))⟩
        obtain ⟨b_h4, h4⟩ : ∃ b, ((pl : Int) == 0) = b := ⟨_, rfl⟩
        cases b_h4
        rotate_left
        · have H := Lib.hid (show (itemB true true tL tN tP tS true k fn pl bl) = false by simp only [itemB, hk, h2, h3, h4] <;> simp)
          go_wp2_with (first
            | (go_at_call 24; ((with_reducible refine (samePen_calls wd cp jn mt ph da dl dc _).mono ?_); rw [HNO.out]; rintro E w4 ⟨rfl, hu4⟩; have z4 := hu4.size; (try simp at z4); have Rw4 : Row w4 w.heap.size #[.int .i64 k, .slice pa pl pc, .int .i64 3, .int .i64 p0, .int .i64 p1, .int .i64 p2, .int .i64 p3, .slice ca cl cc, .int .i64 wd, .int .i64 cp, .int .i64 jn, .int .i64 mt, .slice da dl dc, .int .i64 ph, .int .i64 fn, .int .i64 m.a, .int .i64 m.b, .int .i64 m.c, .int .i64 m.d, .int .i64 m.x, .int .i64 m.y, .slice ba bl bc] := Row.up (show Row _ w.heap.size #[.int .i64 k, .slice pa pl pc, .int .i64 3, .int .i64 p0, .int .i64 p1, .int .i64 p2, .int .i64 p3, .slice ca cl cc, .int .i64 wd, .int .i64 cp, .int .i64 jn, .int .i64 mt, .slice da dl dc, .int .i64 ph, .int .i64 fn, .int .i64 m.a, .int .i64 m.b, .int .i64 m.c, .int .i64 m.d, .int .i64 m.x, .int .i64 m.y, .slice ba bl bc] by (repeat' (with_reducible first | assumption | (refine Row.at _ _ ?_; (simp; done)) | refine Row.alloc ?_ _ | refine Row.drew ?_ | refine Row.drewN ?_ _ | refine Row.other ?_ (by first | (simp; done) | (simp; omega) | omega) _ | refine Row.up ?_ (by assumption) | refine Row.chg ?_ (by assumption) (by first | (simp; done) | (simp; omega))))) hu4; have lw4 := Rw4.lt; have qw4_0 : w4.cell? ⟨w.heap.size, 0, none⟩ = some (.int .i64 k) := Rw4.cell 0 rfl; have qw4_1 : w4.cell? ⟨w.heap.size, 1, none⟩ = some (.slice pa pl pc) := Rw4.cell 1 rfl; have qw4_7 : w4.cell? ⟨w.heap.size, 7, none⟩ = some (.slice ca cl cc) := Rw4.cell 7 rfl; have qw4_8 : w4.cell? ⟨w.heap.size, 8, none⟩ = some (.int .i64 wd) := Rw4.cell 8 rfl; have qw4_9 : w4.cell? ⟨w.heap.size, 9, none⟩ = some (.int .i64 cp) := Rw4.cell 9 rfl; have qw4_10 : w4.cell? ⟨w.heap.size, 10, none⟩ = some (.int .i64 jn) := Rw4.cell 10 rfl; have qw4_11 : w4.cell? ⟨w.heap.size, 11, none⟩ = some (.int .i64 mt) := Rw4.cell 11 rfl; have qw4_12 : w4.cell? ⟨w.heap.size, 12, none⟩ = some (.slice da dl dc) := Rw4.cell 12 rfl; have qw4_13 : w4.cell? ⟨w.heap.size, 13, none⟩ = some (.int .i64 ph) := Rw4.cell 13 rfl; have qw4_14 : w4.cell? ⟨w.heap.size, 14, none⟩ = some (.int .i64 fn) := Rw4.cell 14 rfl; have qw4_15 : w4.cell? ⟨w.heap.size, 15, none⟩ = some (.int .i64 m.a) := Rw4.cell 15 rfl; have qw4_16 : w4.cell? ⟨w.heap.size, 16, none⟩ = some (.int .i64 m.b) := Rw4.cell 16 rfl; have qw4_17 : w4.cell? ⟨w.heap.size, 17, none⟩ = some (.int .i64 m.c) := Rw4.cell 17 rfl; have qw4_18 : w4.cell? ⟨w.heap.size, 18, none⟩ = some (.int .i64 m.d) := Rw4.cell 18 rfl; have qw4_19 : w4.cell? ⟨w.heap.size, 19, none⟩ = some (.int .i64 m.x) := Rw4.cell 19 rfl; have qw4_20 : w4.cell? ⟨w.heap.size, 20, none⟩ = some (.int .i64 m.y) := Rw4.cell 20 rfl; have qw4_21 : w4.cell? ⟨w.heap.size, 21, none⟩ = some (.slice ba bl bc) := Rw4.cell 21 rfl; have u4 : Up w w4 := (by (repeat' (first | (with_reducible first | exact Up.refl _ | assumption | refine Up.alloc ?_ _ | refine Up.drew ?_ | refine Up.drewN ?_ _ | refine Up.setCell ?_ ?_ _ | refine Up.call ?_ (by assumption)) | go_size))))))
          go_ret
          exact ⟨by rw [H.out]; rfl, by (repeat' (first | (with_reducible first | exact Up.refl _ | assumption | refine Up.alloc ?_ _ | refine Up.drew ?_ | refine Up.drewN ?_ _ | refine Up.setCell ?_ ?_ _ | refine Up.call ?_ (by assumption)) | go_size))⟩
        cases tS
        · have H := Lib.hid (show (itemB true true tL tN tP false true k fn pl bl) = false by simp only [itemB, hk, h2, h3, h4] <;> simp)
          go_wp2_with (first
            | (go_at_call 24; ((with_reducible refine (samePen_calls wd cp jn mt ph da dl dc _).mono ?_); rw [HNO.out]; rintro E w4 ⟨rfl, hu4⟩; have z4 := hu4.size; (try simp at z4); have Rw4 : Row w4 w.heap.size #[.int .i64 k, .slice pa pl pc, .int .i64 3, .int .i64 p0, .int .i64 p1, .int .i64 p2, .int .i64 p3, .slice ca cl cc, .int .i64 wd, .int .i64 cp, .int .i64 jn, .int .i64 mt, .slice da dl dc, .int .i64 ph, .int .i64 fn, .int .i64 m.a, .int .i64 m.b, .int .i64 m.c, .int .i64 m.d, .int .i64 m.x, .int .i64 m.y, .slice ba bl bc] := Row.up (show Row _ w.heap.size #[.int .i64 k, .slice pa pl pc, .int .i64 3, .int .i64 p0, .int .i64 p1, .int .i64 p2, .int .i64 p3, .slice ca cl cc, .int .i64 wd, .int .i64 cp, .int .i64 jn, .int .i64 mt, .slice da dl dc, .int .i64 ph, .int .i64 fn, .int .i64 m.a, .int .i64 m.b, .int .i64 m.c, .int .i64 m.d, .int .i64 m.x, .int .i64 m.y, .slice ba bl bc] by (repeat' (with_reducible first | assumption | (refine Row.at _ _ ?_; (simp; done)) | refine Row.alloc ?_ _ | refine Row.drew ?_ | refine Row.drewN ?_ _ | refine Row.other ?_ (by first | (simp; done) | (simp; omega) | omega) _ | refine Row.up ?_ (by assumption) | refine Row.chg ?_ (by assumption) (by first | (simp; done) | (simp; omega))))) hu4; have lw4 := Rw4.lt; have qw4_0 : w4.cell? ⟨w.heap.size, 0, none⟩ = some (.int .i64 k) := Rw4.cell 0 rfl; have qw4_1 : w4.cell? ⟨w.heap.size, 1, none⟩ = some (.slice pa pl pc) := Rw4.cell 1 rfl; have qw4_7 : w4.cell? ⟨w.heap.size, 7, none⟩ = some (.slice ca cl cc) := Rw4.cell 7 rfl; have qw4_8 : w4.cell? ⟨w.heap.size, 8, none⟩ = some (.int .i64 wd) := Rw4.cell 8 rfl; have qw4_9 : w4.cell? ⟨w.heap.size, 9, none⟩ = some (.int .i64 cp) := Rw4.cell 9 rfl; have qw4_10 : w4.cell? ⟨w.heap.size, 10, none⟩ = some (.int .i64 jn) := Rw4.cell 10 rfl; have qw4_11 : w4.cell? ⟨w.heap.size, 11, none⟩ = some (.int .i64 mt) := Rw4.cell 11 rfl; have qw4_12 : w4.cell? ⟨w.heap.size, 12, none⟩ = some (.slice da dl dc) := Rw4.cell 12 rfl; have qw4_13 : w4.cell? ⟨w.heap.size, 13, none⟩ = some (.int .i64 ph) := Rw4.cell 13 rfl; have qw4_14 : w4.cell? ⟨w.heap.size, 14, none⟩ = some (.int .i64 fn) := Rw4.cell 14 rfl; have qw4_15 : w4.cell? ⟨w.heap.size, 15, none⟩ = some (.int .i64 m.a) := Rw4.cell 15 rfl; have qw4_16 : w4.cell? ⟨w.heap.size, 16, none⟩ = some (.int .i64 m.b) := Rw4.cell 16 rfl; have qw4_17 : w4.cell? ⟨w.heap.size, 17, none⟩ = some (.int .i64 m.c) := Rw4.cell 17 rfl; have qw4_18 : w4.cell? ⟨w.heap.size, 18, none⟩ = some (.int .i64 m.d) := Rw4.cell 18 rfl; have qw4_19 : w4.cell? ⟨w.heap.size, 19, none⟩ = some (.int .i64 m.x) := Rw4.cell 19 rfl; have qw4_20 : w4.cell? ⟨w.heap.size, 20, none⟩ = some (.int .i64 m.y) := Rw4.cell 20 rfl; have qw4_21 : w4.cell? ⟨w.heap.size, 21, none⟩ = some (.slice ba bl bc) := Rw4.cell 21 rfl; have u4 : Up w w4 := (by (repeat' (first | (with_reducible first | exact Up.refl _ | assumption | refine Up.alloc ?_ _ | refine Up.drew ?_ | refine Up.drewN ?_ _ | refine Up.setCell ?_ ?_ _ | refine Up.call ?_ (by assumption)) | go_size)))))
            | (go_at_call 23; ((with_reducible refine (Path.soundPath_calls (.slice pa pl pc) l _ (HL.out.up (by (repeat' (first | (with_reducible first | exact Up.refl _ | assumption | refine Up.alloc ?_ _ | refine Up.drew ?_ | refine Up.drewN ?_ _ | refine Up.setCell ?_ ?_ _ | refine Up.call ?_ (by assumption)) | go_size)))).pv).mono ?_); rw [HSO.out]; rintro E w5 ⟨rfl, hu5⟩; have z5 := hu5.size; have Rw5 : Row w5 w.heap.size #[.int .i64 k, .slice pa pl pc, .int .i64 3, .int .i64 p0, .int .i64 p1, .int .i64 p2, .int .i64 p3, .slice ca cl cc, .int .i64 wd, .int .i64 cp, .int .i64 jn, .int .i64 mt, .slice da dl dc, .int .i64 ph, .int .i64 fn, .int .i64 m.a, .int .i64 m.b, .int .i64 m.c, .int .i64 m.d, .int .i64 m.x, .int .i64 m.y, .slice ba bl bc] := Row.up (show Row _ w.heap.size #[.int .i64 k, .slice pa pl pc, .int .i64 3, .int .i64 p0, .int .i64 p1, .int .i64 p2, .int .i64 p3, .slice ca cl cc, .int .i64 wd, .int .i64 cp, .int .i64 jn, .int .i64 mt, .slice da dl dc, .int .i64 ph, .int .i64 fn, .int .i64 m.a, .int .i64 m.b, .int .i64 m.c, .int .i64 m.d, .int .i64 m.x, .int .i64 m.y, .slice ba bl bc] by (repeat' (with_reducible first | assumption | (refine Row.at _ _ ?_; (simp; done)) | refine Row.alloc ?_ _ | refine Row.drew ?_ | refine Row.drewN ?_ _ | refine Row.other ?_ (by first | (simp; done) | (simp; omega) | omega) _ | refine Row.up ?_ (by assumption) | refine Row.chg ?_ (by assumption) (by first | (simp; done) | (simp; omega))))) hu5; have lw5 := Rw5.lt; have qw5_0 : w5.cell? ⟨w.heap.size, 0, none⟩ = some (.int .i64 k) := Rw5.cell 0 rfl; have qw5_1 : w5.cell? ⟨w.heap.size, 1, none⟩ = some (.slice pa pl pc) := Rw5.cell 1 rfl; have qw5_7 : w5.cell? ⟨w.heap.size, 7, none⟩ = some (.slice ca cl cc) := Rw5.cell 7 rfl; have qw5_8 : w5.cell? ⟨w.heap.size, 8, none⟩ = some (.int .i64 wd) := Rw5.cell 8 rfl; have qw5_9 : w5.cell? ⟨w.heap.size, 9, none⟩ = some (.int .i64 cp) := Rw5.cell 9 rfl; have qw5_10 : w5.cell? ⟨w.heap.size, 10, none⟩ = some (.int .i64 jn) := Rw5.cell 10 rfl; have qw5_11 : w5.cell? ⟨w.heap.size, 11, none⟩ = some (.int .i64 mt) := Rw5.cell 11 rfl; have qw5_12 : w5.cell? ⟨w.heap.size, 12, none⟩ = some (.slice da dl dc) := Rw5.cell 12 rfl; have qw5_13 : w5.cell? ⟨w.heap.size, 13, none⟩ = some (.int .i64 ph) := Rw5.cell 13 rfl; have qw5_14 : w5.cell? ⟨w.heap.size, 14, none⟩ = some (.int .i64 fn) := Rw5.cell 14 rfl; have qw5_15 : w5.cell? ⟨w.heap.size, 15, none⟩ = some (.int .i64 m.a) := Rw5.cell 15 rfl; have qw5_16 : w5.cell? ⟨w.heap.size, 16, none⟩ = some (.int .i64 m.b) := Rw5.cell 16 rfl; have qw5_17 : w5.cell? ⟨w.heap.size, 17, none⟩ = some (.int .i64 m.c) := Rw5.cell 17 rfl; have qw5_18 : w5.cell? ⟨w.heap.size, 18, none⟩ = some (.int .i64 m.d) := Rw5.cell 18 rfl; have qw5_19 : w5.cell? ⟨w.heap.size, 19, none⟩ = some (.int .i64 m.x) := Rw5.cell 19 rfl; have qw5_20 : w5.cell? ⟨w.heap.size, 20, none⟩ = some (.int .i64 m.y) := Rw5.cell 20 rfl; have qw5_21 : w5.cell? ⟨w.heap.size, 21, none⟩ = some (.slice ba bl bc) := Rw5.cell 21 rfl)))
          go_ret
          exact ⟨by rw [H.out]; rfl, by (repeat' (first | (with_reducible first | exact Up.refl _ | assumption | refine Up.alloc ?_ _ | refine Up.drew ?_ | refine Up.drewN ?_ _ | refine Up.setCell ?_ ?_ _ | refine Up.call ?_ (by assumption)) | go_size))⟩
        by_cases h7 : k = 3
        · subst h7
          have H := Lib.hid (show (itemB true true tL tN tP true true 3 fn pl bl) = tP by simp only [itemB, h2, h3, h4] <;> simp)
          go_wp2_with (first
            | (go_at_call 24; ((with_reducible refine (samePen_calls wd cp jn mt ph da dl dc _).mono ?_); rw [HNO.out]; rintro E w4 ⟨rfl, hu4⟩; have z4 := hu4.size; (try simp at z4); have Rw4 : Row w4 w.heap.size #[.int .i64 3, .slice pa pl pc, .int .i64 3, .int .i64 p0, .int .i64 p1, .int .i64 p2, .int .i64 p3, .slice ca cl cc, .int .i64 wd, .int .i64 cp, .int .i64 jn, .int .i64 mt, .slice da dl dc, .int .i64 ph, .int .i64 fn, .int .i64 m.a, .int .i64 m.b, .int .i64 m.c, .int .i64 m.d, .int .i64 m.x, .int .i64 m.y, .slice ba bl bc] := Row.up (show Row _ w.heap.size #[.int .i64 3, .slice pa pl pc, .int .i64 3, .int .i64 p0, .int .i64 p1, .int .i64 p2, .int .i64 p3, .slice ca cl cc, .int .i64 wd, .int .i64 cp, .int .i64 jn, .int .i64 mt, .slice da dl dc, .int .i64 ph, .int .i64 fn, .int .i64 m.a, .int .i64 m.b, .int .i64 m.c, .int .i64 m.d, .int .i64 m.x, .int .i64 m.y, .slice ba bl bc] by (repeat' (with_reducible first | assumption | (refine Row.at _ _ ?_; (simp; done)) | refine Row.alloc ?_ _ | refine Row.drew ?_ | refine Row.drewN ?_ _ | refine Row.other ?_ (by first | (simp; done) | (simp; omega) | omega) _ | refine Row.up ?_ (by assumption) | refine Row.chg ?_ (by assumption) (by first | (simp; done) | (simp; omega))))) hu4; have lw4 := Rw4.lt; have qw4_0 : w4.cell? ⟨w.heap.size, 0, none⟩ = some (.int .i64 3) := Rw4.cell 0 rfl; have qw4_1 : w4.cell? ⟨w.heap.size, 1, none⟩ = some (.slice pa pl pc) := Rw4.cell 1 rfl; have qw4_7 : w4.cell? ⟨w.heap.size, 7, none⟩ = some (.slice ca cl cc) := Rw4.cell 7 rfl; have qw4_8 : w4.cell? ⟨w.heap.size, 8, none⟩ = some (.int .i64 wd) := Rw4.cell 8 rfl; have qw4_9 : w4.cell? ⟨w.heap.size, 9, none⟩ = some (.int .i64 cp) := Rw4.cell 9 rfl; have qw4_10 : w4.cell? ⟨w.heap.size, 10, none⟩ = some (.int .i64 jn) := Rw4.cell 10 rfl; have qw4_11 : w4.cell? ⟨w.heap.size, 11, none⟩ = some (.int .i64 mt) := Rw4.cell 11 rfl; have qw4_12 : w4.cell? ⟨w.heap.size, 12, none⟩ = some (.slice da dl dc) := Rw4.cell 12 rfl; have qw4_13 : w4.cell? ⟨w.heap.size, 13, none⟩ = some (.int .i64 ph) := Rw4.cell 13 rfl; have qw4_14 : w4.cell? ⟨w.heap.size, 14, none⟩ = some (.int .i64 fn) := Rw4.cell 14 rfl; have qw4_15 : w4.cell? ⟨w.heap.size, 15, none⟩ = some (.int .i64 m.a) := Rw4.cell 15 rfl; have qw4_16 : w4.cell? ⟨w.heap.size, 16, none⟩ = some (.int .i64 m.b) := Rw4.cell 16 rfl; have qw4_17 : w4.cell? ⟨w.heap.size, 17, none⟩ = some (.int .i64 m.c) := Rw4.cell 17 rfl; have qw4_18 : w4.cell? ⟨w.heap.size, 18, none⟩ = some (.int .i64 m.d) := Rw4.cell 18 rfl; have qw4_19 : w4.cell? ⟨w.heap.size, 19, none⟩ = some (.int .i64 m.x) := Rw4.cell 19 rfl; have qw4_20 : w4.cell? ⟨w.heap.size, 20, none⟩ = some (.int .i64 m.y) := Rw4.cell 20 rfl; have qw4_21 : w4.cell? ⟨w.heap.size, 21, none⟩ = some (.slice ba bl bc) := Rw4.cell 21 rfl; have u4 : Up w w4 := (by (repeat' (first | (with_reducible first | exact Up.refl _ | assumption | refine Up.alloc ?_ _ | refine Up.drew ?_ | refine Up.drewN ?_ _ | refine Up.setCell ?_ ?_ _ | refine Up.call ?_ (by assumption)) | go_size)))))
            | (go_at_call 23; ((with_reducible refine (Path.soundPath_calls (.slice pa pl pc) l _ (HL.out.up (by (repeat' (first | (with_reducible first | exact Up.refl _ | assumption | refine Up.alloc ?_ _ | refine Up.drew ?_ | refine Up.drewN ?_ _ | refine Up.setCell ?_ ?_ _ | refine Up.call ?_ (by assumption)) | go_size)))).pv).mono ?_); rw [HSO.out]; rintro E w5 ⟨rfl, hu5⟩; have z5 := hu5.size; have Rw5 : Row w5 w.heap.size #[.int .i64 3, .slice pa pl pc, .int .i64 3, .int .i64 p0, .int .i64 p1, .int .i64 p2, .int .i64 p3, .slice ca cl cc, .int .i64 wd, .int .i64 cp, .int .i64 jn, .int .i64 mt, .slice da dl dc, .int .i64 ph, .int .i64 fn, .int .i64 m.a, .int .i64 m.b, .int .i64 m.c, .int .i64 m.d, .int .i64 m.x, .int .i64 m.y, .slice ba bl bc] := Row.up (show Row _ w.heap.size #[.int .i64 3, .slice pa pl pc, .int .i64 3, .int .i64 p0, .int .i64 p1, .int .i64 p2, .int .i64 p3, .slice ca cl cc, .int .i64 wd, .int .i64 cp, .int .i64 jn, .int .i64 mt, .slice da dl dc, .int .i64 ph, .int .i64 fn, .int .i64 m.a, .int .i64 m.b, .int .i64 m.c, .int .i64 m.d, .int .i64 m.x, .int .i64 m.y, .slice ba bl bc] by (repeat' (with_reducible first | assumption | (refine Row.at _ _ ?_; (simp; done)) | refine Row.alloc ?_ _ | refine Row.drew ?_ | refine Row.drewN ?_ _ | refine Row.other ?_ (by first | (simp; done) | (simp; omega) | omega) _ | refine Row.up ?_ (by assumption) | refine Row.chg ?_ (by assumption) (by first | (simp; done) | (simp; omega))))) hu5; have lw5 := Rw5.lt; have qw5_0 : w5.cell? ⟨w.heap.size, 0, none⟩ = some (.int .i64 3) := Rw5.cell 0 rfl; have qw5_1 : w5.cell? ⟨w.heap.size, 1, none⟩ = some (.slice pa pl pc) := Rw5.cell 1 rfl; have qw5_7 : w5.cell? ⟨w.heap.size, 7, none⟩ = some (.slice ca cl cc) := Rw5.cell 7 rfl; have qw5_8 : w5.cell? ⟨w.heap.size, 8, none⟩ = some (.int .i64 wd) := Rw5.cell 8 rfl; have qw5_9 : w5.cell? ⟨w.heap.size, 9, none⟩ = some (.int .i64 cp) := Rw5.cell 9 rfl; have qw5_10 : w5.cell? ⟨w.heap.size, 10, none⟩ = some (.int .i64 jn) := Rw5.cell 10 rfl; have qw5_11 : w5.cell? ⟨w.heap.size, 11, none⟩ = some (.int .i64 mt) := Rw5.cell 11 rfl; have qw5_12 : w5.cell? ⟨w.heap.size, 12, none⟩ = some (.slice da dl dc) := Rw5.cell 12 rfl; have qw5_13 : w5.cell? ⟨w.heap.size, 13, none⟩ = some (.int .i64 ph) := Rw5.cell 13 rfl; have qw5_14 : w5.cell? ⟨w.heap.size, 14, none⟩ = some (.int .i64 fn) := Rw5.cell 14 rfl; have qw5_15 : w5.cell? ⟨w.heap.size, 15, none⟩ = some (.int .i64 m.a) := Rw5.cell 15 rfl; have qw5_16 : w5.cell? ⟨w.heap.size, 16, none⟩ = some (.int .i64 m.b) := Rw5.cell 16 rfl; have qw5_17 : w5.cell? ⟨w.heap.size, 17, none⟩ = some (.int .i64 m.c) := Rw5.cell 17 rfl; have qw5_18 : w5.cell? ⟨w.heap.size, 18, none⟩ = some (.int .i64 m.d) := Rw5.cell 18 rfl; have qw5_19 : w5.cell? ⟨w.heap.size, 19, none⟩ = some (.int .i64 m.x) := Rw5.cell 19 rfl; have qw5_20 : w5.cell? ⟨w.heap.size, 20, none⟩ = some (.int .i64 m.y) := Rw5.cell 20 rfl; have qw5_21 : w5.cell? ⟨w.heap.size, 21, none⟩ = some (.slice ba bl bc) := Rw5.cell 21 rfl))
            | (go_at_call 26; ((with_reducible refine (soundPen_calls wd cp jn mt ph da dl dc ds _ HL.out.dn (HL.out.up (by (repeat' (first | (with_reducible first | exact Up.refl _ | assumption | refine Up.alloc ?_ _ | refine Up.drew ?_ | refine Up.drewN ?_ _ | refine Up.setCell ?_ ?_ _ | refine Up.call ?_ (by assumption)) | go_size)))).dv).mono ?_); rw [HPN.out]; rintro E w6 ⟨rfl, hu6⟩)))
          go_ret
          exact ⟨by rw [H.out]; rfl, by (repeat' (first | (with_reducible first | exact Up.refl _ | assumption | refine Up.alloc ?_ _ | refine Up.drew ?_ | refine Up.drewN ?_ _ | refine Up.setCell ?_ ?_ _ | refine Up.call ?_ (by assumption)) | go_size))⟩
        have e3 : (k == 3) = false := by simpa using h7
        have h12 : k = 1 ∨ k = 2 := by have a1 : ¬ k < 1 := (by simpa using k1); have a2 : ¬ 3 < k := (by simpa using k3); omega
        have H := Lib.hid (show (itemB true true tL tN tP true true k fn pl bl) = tN by simp only [itemB, hk, h12, h2, h3, h4] <;> simp)
        go_wp2_with (first
          | (go_at_call 24; ((with_reducible refine (samePen_calls wd cp jn mt ph da dl dc _).mono ?_); rw [HNO.out]; rintro E w4 ⟨rfl, hu4⟩; have z4 := hu4.size; (try simp at z4); have Rw4 : Row w4 w.heap.size #[.int .i64 k, .slice pa pl pc, .int .i64 3, .int .i64 p0, .int .i64 p1, .int .i64 p2, .int .i64 p3, .slice ca cl cc, .int .i64 wd, .int .i64 cp, .int .i64 jn, .int .i64 mt, .slice da dl dc, .int .i64 ph, .int .i64 fn, .int .i64 m.a, .int .i64 m.b, .int .i64 m.c, .int .i64 m.d, .int .i64 m.x, .int .i64 m.y, .slice ba bl bc] := Row.up (show Row _ w.heap.size #[.int .i64 k, .slice pa pl pc, .int .i64 3, .int .i64 p0, .int .i64 p1, .int .i64 p2, .int .i64 p3, .slice ca cl cc, .int .i64 wd, .int .i64 cp, .int .i64 jn, .int .i64 mt, .slice da dl dc, .int .i64 ph, .int .i64 fn, .int .i64 m.a, .int .i64 m.b, .int .i64 m.c, .int .i64 m.d, .int .i64 m.x, .int .i64 m.y, .slice ba bl bc] by (repeat' (with_reducible first | assumption | (refine Row.at _ _ ?_; (simp; done)) | refine Row.alloc ?_ _ | refine Row.drew ?_ | refine Row.drewN ?_ _ | refine Row.other ?_ (by first | (simp; done) | (simp; omega) | omega) _ | refine Row.up ?_ (by assumption) | refine Row.chg ?_ (by assumption) (by first | (simp; done) | (simp; omega))))) hu4; have lw4 := Rw4.lt; have qw4_0 : w4.cell? ⟨w.heap.size, 0, none⟩ = some (.int .i64 k) := Rw4.cell 0 rfl; have qw4_1 : w4.cell? ⟨w.heap.size, 1, none⟩ = some (.slice pa pl pc) := Rw4.cell 1 rfl; have qw4_7 : w4.cell? ⟨w.heap.size, 7, none⟩ = some (.slice ca cl cc) := Rw4.cell 7 rfl; have qw4_8 : w4.cell? ⟨w.heap.size, 8, none⟩ = some (.int .i64 wd) := Rw4.cell 8 rfl; have qw4_9 : w4.cell? ⟨w.heap.size, 9, none⟩ = some (.int .i64 cp) := Rw4.cell 9 rfl; have qw4_10 : w4.cell? ⟨w.heap.size, 10, none⟩ = some (.int .i64 jn) := Rw4.cell 10 rfl; have qw4_11 : w4.cell? ⟨w.heap.size, 11, none⟩ = some (.int .i64 mt) := Rw4.cell 11 rfl; have qw4_12 : w4.cell? ⟨w.heap.size, 12, none⟩ = some (.slice da dl dc) := Rw4.cell 12 rfl; have qw4_13 : w4.cell? ⟨w.heap.size, 13, none⟩ = some (.int .i64 ph) := Rw4.cell 13 rfl; have qw4_14 : w4.cell? ⟨w.heap.size, 14, none⟩ = some (.int .i64 fn) := Rw4.cell 14 rfl; have qw4_15 : w4.cell? ⟨w.heap.size, 15, none⟩ = some (.int .i64 m.a) := Rw4.cell 15 rfl; have qw4_16 : w4.cell? ⟨w.heap.size, 16, none⟩ = some (.int .i64 m.b) := Rw4.cell 16 rfl; have qw4_17 : w4.cell? ⟨w.heap.size, 17, none⟩ = some (.int .i64 m.c) := Rw4.cell 17 rfl; have qw4_18 : w4.cell? ⟨w.heap.size, 18, none⟩ = some (.int .i64 m.d) := Rw4.cell 18 rfl; have qw4_19 : w4.cell? ⟨w.heap.size, 19, none⟩ = some (.int .i64 m.x) := Rw4.cell 19 rfl; have qw4_20 : w4.cell? ⟨w.heap.size, 20, none⟩ = some (.int .i64 m.y) := Rw4.cell 20 rfl; have qw4_21 : w4.cell? ⟨w.heap.size, 21, none⟩ = some (.slice ba bl bc) := Rw4.cell 21 rfl; have u4 : Up w w4 := (by (repeat' (first | (with_reducible first | exact Up.refl _ | assumption | refine Up.alloc ?_ _ | refine Up.drew ?_ | refine Up.drewN ?_ _ | refine Up.setCell ?_ ?_ _ | refine Up.call ?_ (by assumption)) | go_size)))))
          | (go_at_call 23; ((with_reducible refine (Path.soundPath_calls (.slice pa pl pc) l _ (HL.out.up (by (repeat' (first | (with_reducible first | exact Up.refl _ | assumption | refine Up.alloc ?_ _ | refine Up.drew ?_ | refine Up.drewN ?_ _ | refine Up.setCell ?_ ?_ _ | refine Up.call ?_ (by assumption)) | go_size)))).pv).mono ?_); rw [HSO.out]; rintro E w5 ⟨rfl, hu5⟩; have z5 := hu5.size; have Rw5 : Row w5 w.heap.size #[.int .i64 k, .slice pa pl pc, .int .i64 3, .int .i64 p0, .int .i64 p1, .int .i64 p2, .int .i64 p3, .slice ca cl cc, .int .i64 wd, .int .i64 cp, .int .i64 jn, .int .i64 mt, .slice da dl dc, .int .i64 ph, .int .i64 fn, .int .i64 m.a, .int .i64 m.b, .int .i64 m.c, .int .i64 m.d, .int .i64 m.x, .int .i64 m.y, .slice ba bl bc] := Row.up (show Row _ w.heap.size #[.int .i64 k, .slice pa pl pc, .int .i64 3, .int .i64 p0, .int .i64 p1, .int .i64 p2, .int .i64 p3, .slice ca cl cc, .int .i64 wd, .int .i64 cp, .int .i64 jn, .int .i64 mt, .slice da dl dc, .int .i64 ph, .int .i64 fn, .int .i64 m.a, .int .i64 m.b, .int .i64 m.c, .int .i64 m.d, .int .i64 m.x, .int .i64 m.y, .slice ba bl bc] by (repeat' (with_reducible first | assumption | (refine Row.at _ _ ?_; (simp; done)) | refine Row.alloc ?_ _ | refine Row.drew ?_ | refine Row.drewN ?_ _ | refine Row.other ?_ (by first | (simp; done) | (simp; omega) | omega) _ | refine Row.up ?_ (by assumption) | refine Row.chg ?_ (by assumption) (by first | (simp; done) | (simp; omega))))) hu5; have lw5 := Rw5.lt; have qw5_0 : w5.cell? ⟨w.heap.size, 0, none⟩ = some (.int .i64 k) := Rw5.cell 0 rfl; have qw5_1 : w5.cell? ⟨w.heap.size, 1, none⟩ = some (.slice pa pl pc) := Rw5.cell 1 rfl; have qw5_7 : w5.cell? ⟨w.heap.size, 7, none⟩ = some (.slice ca cl cc) := Rw5.cell 7 rfl; have qw5_8 : w5.cell? ⟨w.heap.size, 8, none⟩ = some (.int .i64 wd) := Rw5.cell 8 rfl; have qw5_9 : w5.cell? ⟨w.heap.size, 9, none⟩ = some (.int .i64 cp) := Rw5.cell 9 rfl; have qw5_10 : w5.cell? ⟨w.heap.size, 10, none⟩ = some (.int .i64 jn) := Rw5.cell 10 rfl; have qw5_11 : w5.cell? ⟨w.heap.size, 11, none⟩ = some (.int .i64 mt) := Rw5.cell 11 rfl; have qw5_12 : w5.cell? ⟨w.heap.size, 12, none⟩ = some (.slice da dl dc) := Rw5.cell 12 rfl; have qw5_13 : w5.cell? ⟨w.heap.size, 13, none⟩ = some (.int .i64 ph) := Rw5.cell 13 rfl; have qw5_14 : w5.cell? ⟨w.heap.size, 14, none⟩ = some (.int .i64 fn) := Rw5.cell 14 rfl; have qw5_15 : w5.cell? ⟨w.heap.size, 15, none⟩ = some (.int .i64 m.a) := Rw5.cell 15 rfl; have qw5_16 : w5.cell? ⟨w.heap.size, 16, none⟩ = some (.int .i64 m.b) := Rw5.cell 16 rfl; have qw5_17 : w5.cell? ⟨w.heap.size, 17, none⟩ = some (.int .i64 m.c) := Rw5.cell 17 rfl; have qw5_18 : w5.cell? ⟨w.heap.size, 18, none⟩ = some (.int .i64 m.d) := Rw5.cell 18 rfl; have qw5_19 : w5.cell? ⟨w.heap.size, 19, none⟩ = some (.int .i64 m.x) := Rw5.cell 19 rfl; have qw5_20 : w5.cell? ⟨w.heap.size, 20, none⟩ = some (.int .i64 m.y) := Rw5.cell 20 rfl; have qw5_21 : w5.cell? ⟨w.heap.size, 21, none⟩ = some (.slice ba bl bc) := Rw5.cell 21 rfl)))
        go_ret
        exact ⟨by rw [H.out]; rfl, by (repeat' (first | (with_reducible first | exact Up.refl _ | assumption | refine Up.alloc ?_ _ | refine Up.drew ?_ | refine Up.drewN ?_ _ | refine Up.setCell ?_ ?_ _ | refine Up.call ?_ (by assumption)) | go_size))⟩

set_option maxRecDepth 8000 in
set_option maxHeartbeats 16000000 in
theorem soundItem_4 (k : Int) (pa : Option Addr) (pl pc : Nat) (p0 p1 p2 p3 : Int) (ca : Option Addr) (cl cc : Nat) (wd cp jn mt : Int) (da : Option Addr) (dl dc : Nat) (ph fn : Int) (m : M6) (ba : Option Addr) (bl bc : Nat) (l : List Seg) (cs : List Clip) (ds bs : List Int) (tC tK tL tN tP tS tM : Bool) (w : World) (hL : Lists w pa pl pc ca cl cc da dl dc ba bl bc l cs ds bs)
    (hC : colorR 4 p0 p1 p2 p3 = tC) (hK : clipsR cs = tK) (hLT : lettersR fn m bl = tL) (hNO : noneR wd cp jn mt dl ph = tN) (hPN : penR wd cp jn mt ds ph = tP) (hSO : sound l = tS) (hM : m0 m = tM) :
    Calls Tryd.prog 10 #[.agg #[.int .i64 k, .slice pa pl pc, .int .i64 4, .int .i64 p0, .int .i64 p1, .int .i64 p2, .int .i64 p3, .slice ca cl cc, .int .i64 wd, .int .i64 cp, .int .i64 jn, .int .i64 mt, .slice da dl dc, .int .i64 ph, .int .i64 fn, .int .i64 m.a, .int .i64 m.b, .int .i64 m.c, .int .i64 m.d, .int .i64 m.x, .int .i64 m.y, .slice ba bl bc]] w fun E w' => E = .returned (.bool (itemB tC tK tL tN tP tS tM k fn pl bl)) ∧ Up w w' := by
  have HL := Lib.hid hL
  have HC := Lib.hid hC
  have HK := Lib.hid hK
  have HLT := Lib.hid hLT
  have HNO := Lib.hid hNO
  have HPN := Lib.hid hPN
  have HSO := Lib.hid hSO
  have HCN := Lib.hid hL.sl.2.2.1
  have HCC := Lib.hid hL.sl.2.2.2.2
  have heq : ∀ W : World, (Op.equalIn 10000 33 (.agg #[.int .i64 m.a, .int .i64 m.b, .int .i64 m.c, .int .i64 m.d, .int .i64 m.x, .int .i64 m.y]) (.agg #[.int .i64 0, .int .i64 0, .int .i64 0, .int .i64 0, .int .i64 0, .int .i64 0])).run Tryd.prog W = .ok tM W := fun W => by
    rw [run_eq6]
    exact congrArg (fun b => Result.ok b W) hM
  clear hL hC hK hLT hNO hPN hSO hM
  have HS := Lib.hid (show spaceOk 4 = true by decide)
  go_enter Tryd.func10, Tryd.ntmps10
  go_wp2
  go_loop [4] (fun s4 => ∃ j : Nat, j ≤ 4 ∧ s4 = .int .i64 j ∧ Hid (0 < j → partOk 4 0 p0 = true) ∧ Hid (1 < j → partOk 4 1 p1 = true) ∧ Hid (2 < j → partOk 4 2 p2 = true) ∧ Hid (3 < j → partOk 4 3 p3 = true)) (fun s4 => 4 - (intOf s4).toNat)
  case atStart => exact ⟨0, by decide, rfl, Lib.hid (fun h => absurd h (by decide)), Lib.hid (fun h => absurd h (by decide)), Lib.hid (fun h => absurd h (by decide)), Lib.hid (fun h => absurd h (by decide))⟩
  case round =>
    obtain ⟨j, hj, rfl, HO0, HO1, HO2, HO3⟩ := hrel
    rcases (show j = 0 ∨ j = 1 ∨ j = 2 ∨ j = 3 ∨ j = 4 by omega) with rfl | rfl | rfl | rfl | rfl
    · obtain ⟨b1, q1⟩ : ∃ b, decide (p0 < 0) = b := ⟨_, rfl⟩
      cases b1
      rotate_left
      · have H := Lib.hid (show (itemB tC tK tL tN tP tS tM k fn pl bl) = false by have hc : tC = false := (by rw [← HC.out]; have h1 : partOk 4 0 p0 = false := (by simp [partOk, q1]); simp [colorR, h1]); rw [hc]; simp [itemB])
        go_wp2
        go_ret
        exact ⟨by rw [H.out]; rfl, by (repeat' (first | (with_reducible first | exact Up.refl _ | assumption | refine Up.alloc ?_ _ | refine Up.drew ?_ | refine Up.drewN ?_ _ | refine Up.setCell ?_ ?_ _ | refine Up.call ?_ (by assumption)) | go_size))⟩
      obtain ⟨b2, q2⟩ : ∃ b, decide (65536 < p0) = b := ⟨_, rfl⟩
      cases b2
      rotate_left
      · have H := Lib.hid (show (itemB tC tK tL tN tP tS tM k fn pl bl) = false by have hc : tC = false := (by rw [← HC.out]; have h1 : partOk 4 0 p0 = false := (by simp [partOk, q1, q2]); simp [colorR, h1]); rw [hc]; simp [itemB])
        go_wp2
        go_ret
        exact ⟨by rw [H.out]; rfl, by (repeat' (first | (with_reducible first | exact Up.refl _ | assumption | refine Up.alloc ?_ _ | refine Up.drew ?_ | refine Up.drewN ?_ _ | refine Up.setCell ?_ ?_ _ | refine Up.call ?_ (by assumption)) | go_size))⟩
      have HG := Lib.hid (show partOk 4 0 p0 = true by simp [partOk, q1, q2])
      go_wp2
      go_roundw
      case rel => exact ⟨1, by decide, by go_num, Lib.hid (fun _ => HG.out), Lib.hid (fun h => absurd h (by decide)), Lib.hid (fun h => absurd h (by decide)), Lib.hid (fun h => absurd h (by decide))⟩
      case measure => simp [intOf]
    · obtain ⟨b1, q1⟩ : ∃ b, decide (p1 < 0) = b := ⟨_, rfl⟩
      cases b1
      rotate_left
      · have H := Lib.hid (show (itemB tC tK tL tN tP tS tM k fn pl bl) = false by have hc : tC = false := (by rw [← HC.out]; have h1 : partOk 4 1 p1 = false := (by simp [partOk, q1]); simp [colorR, h1]); rw [hc]; simp [itemB])
        go_wp2
        go_ret
        exact ⟨by rw [H.out]; rfl, by (repeat' (first | (with_reducible first | exact Up.refl _ | assumption | refine Up.alloc ?_ _ | refine Up.drew ?_ | refine Up.drewN ?_ _ | refine Up.setCell ?_ ?_ _ | refine Up.call ?_ (by assumption)) | go_size))⟩
      obtain ⟨b2, q2⟩ : ∃ b, decide (65536 < p1) = b := ⟨_, rfl⟩
      cases b2
      rotate_left
      · have H := Lib.hid (show (itemB tC tK tL tN tP tS tM k fn pl bl) = false by have hc : tC = false := (by rw [← HC.out]; have h1 : partOk 4 1 p1 = false := (by simp [partOk, q1, q2]); simp [colorR, h1]); rw [hc]; simp [itemB])
        go_wp2
        go_ret
        exact ⟨by rw [H.out]; rfl, by (repeat' (first | (with_reducible first | exact Up.refl _ | assumption | refine Up.alloc ?_ _ | refine Up.drew ?_ | refine Up.drewN ?_ _ | refine Up.setCell ?_ ?_ _ | refine Up.call ?_ (by assumption)) | go_size))⟩
      have HG := Lib.hid (show partOk 4 1 p1 = true by simp [partOk, q1, q2])
      go_wp2
      go_roundw
      case rel => exact ⟨2, by decide, by go_num, Lib.hid (fun _ => HO0.out (by decide)), Lib.hid (fun _ => HG.out), Lib.hid (fun h => absurd h (by decide)), Lib.hid (fun h => absurd h (by decide))⟩
      case measure => simp [intOf]
    · obtain ⟨b1, q1⟩ : ∃ b, decide (p2 < 0) = b := ⟨_, rfl⟩
      cases b1
      rotate_left
      · have H := Lib.hid (show (itemB tC tK tL tN tP tS tM k fn pl bl) = false by have hc : tC = false := (by rw [← HC.out]; have h1 : partOk 4 2 p2 = false := (by simp [partOk, q1]); simp [colorR, h1]); rw [hc]; simp [itemB])
        go_wp2
        go_ret
        exact ⟨by rw [H.out]; rfl, by (repeat' (first | (with_reducible first | exact Up.refl _ | assumption | refine Up.alloc ?_ _ | refine Up.drew ?_ | refine Up.drewN ?_ _ | refine Up.setCell ?_ ?_ _ | refine Up.call ?_ (by assumption)) | go_size))⟩
      obtain ⟨b2, q2⟩ : ∃ b, decide (65536 < p2) = b := ⟨_, rfl⟩
      cases b2
      rotate_left
      · have H := Lib.hid (show (itemB tC tK tL tN tP tS tM k fn pl bl) = false by have hc : tC = false := (by rw [← HC.out]; have h1 : partOk 4 2 p2 = false := (by simp [partOk, q1, q2]); simp [colorR, h1]); rw [hc]; simp [itemB])
        go_wp2
        go_ret
        exact ⟨by rw [H.out]; rfl, by (repeat' (first | (with_reducible first | exact Up.refl _ | assumption | refine Up.alloc ?_ _ | refine Up.drew ?_ | refine Up.drewN ?_ _ | refine Up.setCell ?_ ?_ _ | refine Up.call ?_ (by assumption)) | go_size))⟩
      have HG := Lib.hid (show partOk 4 2 p2 = true by simp [partOk, q1, q2])
      go_wp2
      go_roundw
      case rel => exact ⟨3, by decide, by go_num, Lib.hid (fun _ => HO0.out (by decide)), Lib.hid (fun _ => HO1.out (by decide)), Lib.hid (fun _ => HG.out), Lib.hid (fun h => absurd h (by decide))⟩
      case measure => simp [intOf]
    · obtain ⟨b1, q1⟩ : ∃ b, decide (p3 < 0) = b := ⟨_, rfl⟩
      cases b1
      rotate_left
      · have H := Lib.hid (show (itemB tC tK tL tN tP tS tM k fn pl bl) = false by have hc : tC = false := (by rw [← HC.out]; have h1 : partOk 4 3 p3 = false := (by simp [partOk, q1]); simp [colorR, h1]); rw [hc]; simp [itemB])
        go_wp2
        go_ret
        exact ⟨by rw [H.out]; rfl, by (repeat' (first | (with_reducible first | exact Up.refl _ | assumption | refine Up.alloc ?_ _ | refine Up.drew ?_ | refine Up.drewN ?_ _ | refine Up.setCell ?_ ?_ _ | refine Up.call ?_ (by assumption)) | go_size))⟩
      obtain ⟨b2, q2⟩ : ∃ b, decide (65536 < p3) = b := ⟨_, rfl⟩
      cases b2
      rotate_left
      · have H := Lib.hid (show (itemB tC tK tL tN tP tS tM k fn pl bl) = false by have hc : tC = false := (by rw [← HC.out]; have h1 : partOk 4 3 p3 = false := (by simp [partOk, q1, q2]); simp [colorR, h1]); rw [hc]; simp [itemB])
        go_wp2
        go_ret
        exact ⟨by rw [H.out]; rfl, by (repeat' (first | (with_reducible first | exact Up.refl _ | assumption | refine Up.alloc ?_ _ | refine Up.drew ?_ | refine Up.drewN ?_ _ | refine Up.setCell ?_ ?_ _ | refine Up.call ?_ (by assumption)) | go_size))⟩
      have HG := Lib.hid (show partOk 4 3 p3 = true by simp [partOk, q1, q2])
      go_wp2
      go_roundw
      case rel => exact ⟨4, by decide, by go_num, Lib.hid (fun _ => HO0.out (by decide)), Lib.hid (fun _ => HO1.out (by decide)), Lib.hid (fun _ => HO2.out (by decide)), Lib.hid (fun _ => HG.out)⟩
      case measure => simp [intOf]
    · have HTC := Lib.hid (show tC = true by rw [← HC.out]; simp [colorR, HS.out, HO0.out (by decide), HO1.out (by decide), HO2.out (by decide), HO3.out (by decide)])
      obtain rfl := HTC.out
      by_cases h16 : cl ≤ 16
      rotate_left
      · have hcast : decide ((16 : Int) < (cl : Int)) = true := decide_eq_true (by omega)
        have H := Lib.hid (show itemB true tK tL tN tP tS tM k fn pl bl = false by have e : clipsR cs = false := (by simp only [clipsR, HCN.out, decide_eq_false h16, Bool.false_and]); rw [← HK.out, e]; simp [itemB])
        go_wp2
        go_ret
        exact ⟨by rw [H.out]; rfl, by (repeat' (first | (with_reducible first | exact Up.refl _ | assumption | refine Up.alloc ?_ _ | refine Up.drew ?_ | refine Up.drewN ?_ _ | refine Up.setCell ?_ ?_ _ | refine Up.call ?_ (by assumption)) | go_size))⟩
      have hcast : decide ((16 : Int) < (cl : Int)) = false := decide_eq_false (by omega)
      go_wp2
      go_loopw [5] (fun s5 wr => ∃ j : Nat, j ≤ cl ∧ s5 = .int .i64 j ∧ Hid ((cs.take j).all clipOk = true) ∧ Hid (Row wr w.heap.size #[.int .i64 k, .slice pa pl pc, .int .i64 4, .int .i64 p0, .int .i64 p1, .int .i64 p2, .int .i64 p3, .slice ca cl cc, .int .i64 wd, .int .i64 cp, .int .i64 jn, .int .i64 mt, .slice da dl dc, .int .i64 ph, .int .i64 fn, .int .i64 m.a, .int .i64 m.b, .int .i64 m.c, .int .i64 m.d, .int .i64 m.x, .int .i64 m.y, .slice ba bl bc]) ∧ Up w wr) (fun s5 _ => cl - (intOf s5).toNat)
      case atStart => exact ⟨0, Nat.zero_le _, rfl, Lib.hid (by simp), Lib.hid (by (repeat' (with_reducible first | assumption | (refine Row.at _ _ ?_; (simp; done)) | refine Row.alloc ?_ _ | refine Row.drew ?_ | refine Row.drewN ?_ _ | refine Row.other ?_ (by first | (simp; done) | (simp; omega) | omega) _ | refine Row.up ?_ (by assumption) | refine Row.chg ?_ (by assumption) (by first | (simp; done) | (simp; omega))))), by (repeat' (first | (with_reducible first | exact Up.refl _ | assumption | refine Up.alloc ?_ _ | refine Up.drew ?_ | refine Up.drewN ?_ _ | refine Up.setCell ?_ ?_ _ | refine Up.call ?_ (by assumption)) | go_size))⟩
      case round =>
        clear hcast
        obtain ⟨j, hj, rfl, HA, HRW, hup⟩ := hrel
        have RWR := HRW.out
        have lWR := RWR.lt
        have hz := hup.size
        have qWR_0 : wr.cell? ⟨w.heap.size, 0, none⟩ = some (.int .i64 k) := RWR.cell 0 rfl
        have qWR_1 : wr.cell? ⟨w.heap.size, 1, none⟩ = some (.slice pa pl pc) := RWR.cell 1 rfl
        have qWR_7 : wr.cell? ⟨w.heap.size, 7, none⟩ = some (.slice ca cl cc) := RWR.cell 7 rfl
        have qWR_8 : wr.cell? ⟨w.heap.size, 8, none⟩ = some (.int .i64 wd) := RWR.cell 8 rfl
        have qWR_9 : wr.cell? ⟨w.heap.size, 9, none⟩ = some (.int .i64 cp) := RWR.cell 9 rfl
        have qWR_10 : wr.cell? ⟨w.heap.size, 10, none⟩ = some (.int .i64 jn) := RWR.cell 10 rfl
        have qWR_11 : wr.cell? ⟨w.heap.size, 11, none⟩ = some (.int .i64 mt) := RWR.cell 11 rfl
        have qWR_12 : wr.cell? ⟨w.heap.size, 12, none⟩ = some (.slice da dl dc) := RWR.cell 12 rfl
        have qWR_13 : wr.cell? ⟨w.heap.size, 13, none⟩ = some (.int .i64 ph) := RWR.cell 13 rfl
        have qWR_14 : wr.cell? ⟨w.heap.size, 14, none⟩ = some (.int .i64 fn) := RWR.cell 14 rfl
        have qWR_15 : wr.cell? ⟨w.heap.size, 15, none⟩ = some (.int .i64 m.a) := RWR.cell 15 rfl
        have qWR_16 : wr.cell? ⟨w.heap.size, 16, none⟩ = some (.int .i64 m.b) := RWR.cell 16 rfl
        have qWR_17 : wr.cell? ⟨w.heap.size, 17, none⟩ = some (.int .i64 m.c) := RWR.cell 17 rfl
        have qWR_18 : wr.cell? ⟨w.heap.size, 18, none⟩ = some (.int .i64 m.d) := RWR.cell 18 rfl
        have qWR_19 : wr.cell? ⟨w.heap.size, 19, none⟩ = some (.int .i64 m.x) := RWR.cell 19 rfl
        have qWR_20 : wr.cell? ⟨w.heap.size, 20, none⟩ = some (.int .i64 m.y) := RWR.cell 20 rfl
        have qWR_21 : wr.cell? ⟨w.heap.size, 21, none⟩ = some (.slice ba bl bc) := RWR.cell 21 rfl
        by_cases hlt : j < cl
        · obtain ⟨⟨v, sl, eo⟩, hx⟩ : ∃ x, cs[j]? = some x := ⟨_, List.getElem?_eq_getElem (by have := HCN.out; omega)⟩
          obtain ⟨b, ob, rfl, hb, hc⟩ := HCC.out (by omega)
          have hc0 := hc j _ 0 _ hx rfl
          simp only [Clip.cells, Nat.add_zero] at hc0
          have hq0 := (hup.cells.1 b _ hb).trans hc0
          have hsv := HL.out.sv _ (List.mem_of_getElem? hx)
          simp only at hsv
          obtain ⟨va, vc, e⟩ := segV_len hsv
          subst e
          obtain ⟨vn, hvn⟩ : ∃ vn, sl.length = vn := ⟨_, rfl⟩
          rw [hvn] at hq0 hsv
          have HSV := Lib.hid hsv
          have HVN := Lib.hid hvn
          have HX := Lib.hid hx
          have hlb : b < wr.heap.size := Nat.lt_of_lt_of_le hb hup.size
          have hcast : decide ((j : Int) < (cl : Int)) = true := decide_eq_true (by omega)
          clear hc0 hc hx hsv hvn
          have HBAD := Lib.hid (fun (h : clipOk ⟨.slice va vn vc, sl, eo⟩ = false) => Lib.hid (show itemB true tK tL tN tP tS tM k fn pl bl = false by
            have e : clipsR cs = false := by
              have e2 : cs.all clipOk = false := by
                rw [List.all_eq_false]
                exact ⟨_, List.mem_of_getElem? HX.out, by rw [HVN.out]; simp [h]⟩
              simp [clipsR, e2]
            rw [← HK.out, e]
            simp [itemB]))
          obtain ⟨b1, q1⟩ : ∃ b, ((vn : Int) == 0) = b := ⟨_, rfl⟩
          have HQ1 := Lib.hid (show (sl.length == 0) = b1 by rw [HVN.out, ← q1]; cases vn <;> simp <;> omega)
          cases b1
          rotate_left
          · have H := HBAD.out (by simp [clipOk, HQ1.out])
            go_wp2
            go_ret
            exact ⟨by rw [H.out]; rfl, by (repeat' (first | (with_reducible first | exact Up.refl _ | assumption | refine Up.alloc ?_ _ | refine Up.drew ?_ | refine Up.drewN ?_ _ | refine Up.setCell ?_ ?_ _ | refine Up.call ?_ (by assumption)) | go_size))⟩
          obtain ⟨b2, hb2⟩ : ∃ b, sound sl = b := ⟨_, rfl⟩
          have HB2 := Lib.hid hb2
          clear hb2
          cases b2
          · have H := HBAD.out (by simp [clipOk, HB2.out])
            go_wp2_with (go_at_call 23; ((with_reducible refine (Path.soundPath_calls (.slice va vn vc) sl _ (HSV.out.up (by (repeat' (first | (with_reducible first | exact Up.refl _ | assumption | refine Up.alloc ?_ _ | refine Up.drew ?_ | refine Up.drewN ?_ _ | refine Up.setCell ?_ ?_ _ | refine Up.call ?_ (by assumption)) | go_size))))).mono ?_); rw [HB2.out]; rintro E w7 ⟨rfl, hu7⟩))
            go_ret
            exact ⟨by rw [H.out]; rfl, by (repeat' (first | (with_reducible first | exact Up.refl _ | assumption | refine Up.alloc ?_ _ | refine Up.drew ?_ | refine Up.drewN ?_ _ | refine Up.setCell ?_ ?_ _ | refine Up.call ?_ (by assumption)) | go_size))⟩
          have HOK := Lib.hid (show clipOk ⟨.slice va sl.length vc, sl, eo⟩ = true by simp [clipOk, HQ1.out, HB2.out])
          go_wp2_with (go_at_call 23; ((with_reducible refine (Path.soundPath_calls (.slice va vn vc) sl _ (HSV.out.up (by (repeat' (first | (with_reducible first | exact Up.refl _ | assumption | refine Up.alloc ?_ _ | refine Up.drew ?_ | refine Up.drewN ?_ _ | refine Up.setCell ?_ ?_ _ | refine Up.call ?_ (by assumption)) | go_size))))).mono ?_); rw [HB2.out]; rintro E w7 ⟨rfl, hu7⟩))
          go_roundw
          case rel => exact ⟨j + 1, by omega, by go_num, Lib.hid (all_step HX.out HA.out HOK.out), Lib.hid (Row.up RWR hu7), by (repeat' (first | (with_reducible first | exact Up.refl _ | assumption | refine Up.alloc ?_ _ | refine Up.drew ?_ | refine Up.drewN ?_ _ | refine Up.setCell ?_ ?_ _ | refine Up.call ?_ (by assumption)) | go_size))⟩
          case measure => simp [intOf]; omega
        have hcast : decide ((j : Int) < (cl : Int)) = false := decide_eq_false (by omega)
        have HTK := Lib.hid (show tK = true by
          rw [← HK.out]
          have h1 := HA.out
          rw [List.take_of_length_le (by have := HCN.out; omega)] at h1
          simp only [clipsR, h1, HCN.out, decide_eq_true h16, Bool.and_true])
        obtain rfl := HTK.out
        by_cases hk : k = 4
        · subst hk
          go_wp2_with (first
            | (go_at_call 24; ((with_reducible refine (samePen_calls wd cp jn mt ph da dl dc _).mono ?_); rw [HNO.out]; rintro E w4 ⟨rfl, hu4⟩; have z4 := hu4.size; (try simp at z4); have Rw4 : Row w4 w.heap.size #[.int .i64 4, .slice pa pl pc, .int .i64 4, .int .i64 p0, .int .i64 p1, .int .i64 p2, .int .i64 p3, .slice ca cl cc, .int .i64 wd, .int .i64 cp, .int .i64 jn, .int .i64 mt, .slice da dl dc, .int .i64 ph, .int .i64 fn, .int .i64 m.a, .int .i64 m.b, .int .i64 m.c, .int .i64 m.d, .int .i64 m.x, .int .i64 m.y, .slice ba bl bc] := Row.up (show Row _ w.heap.size #[.int .i64 4, .slice pa pl pc, .int .i64 4, .int .i64 p0, .int .i64 p1, .int .i64 p2, .int .i64 p3, .slice ca cl cc, .int .i64 wd, .int .i64 cp, .int .i64 jn, .int .i64 mt, .slice da dl dc, .int .i64 ph, .int .i64 fn, .int .i64 m.a, .int .i64 m.b, .int .i64 m.c, .int .i64 m.d, .int .i64 m.x, .int .i64 m.y, .slice ba bl bc] by (repeat' (with_reducible first | assumption | (refine Row.at _ _ ?_; (simp; done)) | refine Row.alloc ?_ _ | refine Row.drew ?_ | refine Row.drewN ?_ _ | refine Row.other ?_ (by first | (simp; done) | (simp; omega) | omega) _ | refine Row.up ?_ (by assumption) | refine Row.chg ?_ (by assumption) (by first | (simp; done) | (simp; omega))))) hu4; have lw4 := Rw4.lt; have qw4_0 : w4.cell? ⟨w.heap.size, 0, none⟩ = some (.int .i64 4) := Rw4.cell 0 rfl; have qw4_1 : w4.cell? ⟨w.heap.size, 1, none⟩ = some (.slice pa pl pc) := Rw4.cell 1 rfl; have qw4_7 : w4.cell? ⟨w.heap.size, 7, none⟩ = some (.slice ca cl cc) := Rw4.cell 7 rfl; have qw4_8 : w4.cell? ⟨w.heap.size, 8, none⟩ = some (.int .i64 wd) := Rw4.cell 8 rfl; have qw4_9 : w4.cell? ⟨w.heap.size, 9, none⟩ = some (.int .i64 cp) := Rw4.cell 9 rfl; have qw4_10 : w4.cell? ⟨w.heap.size, 10, none⟩ = some (.int .i64 jn) := Rw4.cell 10 rfl; have qw4_11 : w4.cell? ⟨w.heap.size, 11, none⟩ = some (.int .i64 mt) := Rw4.cell 11 rfl; have qw4_12 : w4.cell? ⟨w.heap.size, 12, none⟩ = some (.slice da dl dc) := Rw4.cell 12 rfl; have qw4_13 : w4.cell? ⟨w.heap.size, 13, none⟩ = some (.int .i64 ph) := Rw4.cell 13 rfl; have qw4_14 : w4.cell? ⟨w.heap.size, 14, none⟩ = some (.int .i64 fn) := Rw4.cell 14 rfl; have qw4_15 : w4.cell? ⟨w.heap.size, 15, none⟩ = some (.int .i64 m.a) := Rw4.cell 15 rfl; have qw4_16 : w4.cell? ⟨w.heap.size, 16, none⟩ = some (.int .i64 m.b) := Rw4.cell 16 rfl; have qw4_17 : w4.cell? ⟨w.heap.size, 17, none⟩ = some (.int .i64 m.c) := Rw4.cell 17 rfl; have qw4_18 : w4.cell? ⟨w.heap.size, 18, none⟩ = some (.int .i64 m.d) := Rw4.cell 18 rfl; have qw4_19 : w4.cell? ⟨w.heap.size, 19, none⟩ = some (.int .i64 m.x) := Rw4.cell 19 rfl; have qw4_20 : w4.cell? ⟨w.heap.size, 20, none⟩ = some (.int .i64 m.y) := Rw4.cell 20 rfl; have qw4_21 : w4.cell? ⟨w.heap.size, 21, none⟩ = some (.slice ba bl bc) := Rw4.cell 21 rfl; have u4 : Up w w4 := (by (repeat' (first | (with_reducible first | exact Up.refl _ | assumption | refine Up.alloc ?_ _ | refine Up.drew ?_ | refine Up.drewN ?_ _ | refine Up.setCell ?_ ?_ _ | refine Up.call ?_ (by assumption)) | go_size))))))
          go_loop [7] (fun s7 => ∃ j : Nat, j ≤ 6 ∧ s7 = .int .i64 j ∧ Hid (0 < j → fits m.a = true) ∧ Hid (1 < j → fits m.b = true) ∧ Hid (2 < j → fits m.c = true) ∧ Hid (3 < j → fits m.d = true) ∧ Hid (4 < j → fits m.x = true) ∧ Hid (5 < j → fits m.y = true)) (fun s7 => 6 - (intOf s7).toNat)
          case atStart => exact ⟨0, by decide, rfl, Lib.hid (fun h => absurd h (by decide)), Lib.hid (fun h => absurd h (by decide)), Lib.hid (fun h => absurd h (by decide)), Lib.hid (fun h => absurd h (by decide)), Lib.hid (fun h => absurd h (by decide)), Lib.hid (fun h => absurd h (by decide))⟩
          case round =>
            obtain ⟨j, hj, rfl, HM0, HM1, HM2, HM3, HM4, HM5⟩ := hrel
            rcases (show j = 0 ∨ j = 1 ∨ j = 2 ∨ j = 3 ∨ j = 4 ∨ j = 5 ∨ j = 6 by omega) with rfl | rfl | rfl | rfl | rfl | rfl | rfl
            · obtain ⟨b1, q1⟩ : ∃ b, fits m.a = b := ⟨_, rfl⟩
              cases b1
              · have HTL := Lib.hid (show tL = false by rw [← HLT.out]; exact letters_bad (by simp [q1]))
                have H := Lib.hid (show itemB true true tL tN tP tS tM 4 fn pl bl = false by rw [HTL.out]; simp [itemB])
                go_wp2_with (go_at_call 25; ((with_reducible refine (Rfix.fits_calls _ _).mono ?_); rintro e w' ⟨rfl, rfl⟩))
                go_ret
                exact ⟨by rw [H.out]; rfl, by (repeat' (first | (with_reducible first | exact Up.refl _ | assumption | refine Up.alloc ?_ _ | refine Up.drew ?_ | refine Up.drewN ?_ _ | refine Up.setCell ?_ ?_ _ | refine Up.call ?_ (by assumption)) | go_size))⟩
              · have HG := Lib.hid q1
                go_wp2_with (go_at_call 25; ((with_reducible refine (Rfix.fits_calls _ _).mono ?_); rintro e w' ⟨rfl, rfl⟩))
                go_roundw
                case rel => exact ⟨1, by decide, by go_num, Lib.hid (fun _ => HG.out), Lib.hid (fun h => absurd h (by decide)), Lib.hid (fun h => absurd h (by decide)), Lib.hid (fun h => absurd h (by decide)), Lib.hid (fun h => absurd h (by decide)), Lib.hid (fun h => absurd h (by decide))⟩
                case measure => simp [intOf]
            · obtain ⟨b1, q1⟩ : ∃ b, fits m.b = b := ⟨_, rfl⟩
              cases b1
              · have HTL := Lib.hid (show tL = false by rw [← HLT.out]; exact letters_bad (by simp [q1]))
                have H := Lib.hid (show itemB true true tL tN tP tS tM 4 fn pl bl = false by rw [HTL.out]; simp [itemB])
                go_wp2_with (go_at_call 25; ((with_reducible refine (Rfix.fits_calls _ _).mono ?_); rintro e w' ⟨rfl, rfl⟩))
                go_ret
                exact ⟨by rw [H.out]; rfl, by (repeat' (first | (with_reducible first | exact Up.refl _ | assumption | refine Up.alloc ?_ _ | refine Up.drew ?_ | refine Up.drewN ?_ _ | refine Up.setCell ?_ ?_ _ | refine Up.call ?_ (by assumption)) | go_size))⟩
              · have HG := Lib.hid q1
                go_wp2_with (go_at_call 25; ((with_reducible refine (Rfix.fits_calls _ _).mono ?_); rintro e w' ⟨rfl, rfl⟩))
                go_roundw
                case rel => exact ⟨2, by decide, by go_num, Lib.hid (fun _ => HM0.out (by decide)), Lib.hid (fun _ => HG.out), Lib.hid (fun h => absurd h (by decide)), Lib.hid (fun h => absurd h (by decide)), Lib.hid (fun h => absurd h (by decide)), Lib.hid (fun h => absurd h (by decide))⟩
                case measure => simp [intOf]
            · obtain ⟨b1, q1⟩ : ∃ b, fits m.c = b := ⟨_, rfl⟩
              cases b1
              · have HTL := Lib.hid (show tL = false by rw [← HLT.out]; exact letters_bad (by simp [q1]))
                have H := Lib.hid (show itemB true true tL tN tP tS tM 4 fn pl bl = false by rw [HTL.out]; simp [itemB])
                go_wp2_with (go_at_call 25; ((with_reducible refine (Rfix.fits_calls _ _).mono ?_); rintro e w' ⟨rfl, rfl⟩))
                go_ret
                exact ⟨by rw [H.out]; rfl, by (repeat' (first | (with_reducible first | exact Up.refl _ | assumption | refine Up.alloc ?_ _ | refine Up.drew ?_ | refine Up.drewN ?_ _ | refine Up.setCell ?_ ?_ _ | refine Up.call ?_ (by assumption)) | go_size))⟩
              · have HG := Lib.hid q1
                go_wp2_with (go_at_call 25; ((with_reducible refine (Rfix.fits_calls _ _).mono ?_); rintro e w' ⟨rfl, rfl⟩))
                go_roundw
                case rel => exact ⟨3, by decide, by go_num, Lib.hid (fun _ => HM0.out (by decide)), Lib.hid (fun _ => HM1.out (by decide)), Lib.hid (fun _ => HG.out), Lib.hid (fun h => absurd h (by decide)), Lib.hid (fun h => absurd h (by decide)), Lib.hid (fun h => absurd h (by decide))⟩
                case measure => simp [intOf]
            · obtain ⟨b1, q1⟩ : ∃ b, fits m.d = b := ⟨_, rfl⟩
              cases b1
              · have HTL := Lib.hid (show tL = false by rw [← HLT.out]; exact letters_bad (by simp [q1]))
                have H := Lib.hid (show itemB true true tL tN tP tS tM 4 fn pl bl = false by rw [HTL.out]; simp [itemB])
                go_wp2_with (go_at_call 25; ((with_reducible refine (Rfix.fits_calls _ _).mono ?_); rintro e w' ⟨rfl, rfl⟩))
                go_ret
                exact ⟨by rw [H.out]; rfl, by (repeat' (first | (with_reducible first | exact Up.refl _ | assumption | refine Up.alloc ?_ _ | refine Up.drew ?_ | refine Up.drewN ?_ _ | refine Up.setCell ?_ ?_ _ | refine Up.call ?_ (by assumption)) | go_size))⟩
              · have HG := Lib.hid q1
                go_wp2_with (go_at_call 25; ((with_reducible refine (Rfix.fits_calls _ _).mono ?_); rintro e w' ⟨rfl, rfl⟩))
                go_roundw
                case rel => exact ⟨4, by decide, by go_num, Lib.hid (fun _ => HM0.out (by decide)), Lib.hid (fun _ => HM1.out (by decide)), Lib.hid (fun _ => HM2.out (by decide)), Lib.hid (fun _ => HG.out), Lib.hid (fun h => absurd h (by decide)), Lib.hid (fun h => absurd h (by decide))⟩
                case measure => simp [intOf]
            · obtain ⟨b1, q1⟩ : ∃ b, fits m.x = b := ⟨_, rfl⟩
              cases b1
              · have HTL := Lib.hid (show tL = false by rw [← HLT.out]; exact letters_bad (by simp [q1]))
                have H := Lib.hid (show itemB true true tL tN tP tS tM 4 fn pl bl = false by rw [HTL.out]; simp [itemB])
                go_wp2_with (go_at_call 25; ((with_reducible refine (Rfix.fits_calls _ _).mono ?_); rintro e w' ⟨rfl, rfl⟩))
                go_ret
                exact ⟨by rw [H.out]; rfl, by (repeat' (first | (with_reducible first | exact Up.refl _ | assumption | refine Up.alloc ?_ _ | refine Up.drew ?_ | refine Up.drewN ?_ _ | refine Up.setCell ?_ ?_ _ | refine Up.call ?_ (by assumption)) | go_size))⟩
              · have HG := Lib.hid q1
                go_wp2_with (go_at_call 25; ((with_reducible refine (Rfix.fits_calls _ _).mono ?_); rintro e w' ⟨rfl, rfl⟩))
                go_roundw
                case rel => exact ⟨5, by decide, by go_num, Lib.hid (fun _ => HM0.out (by decide)), Lib.hid (fun _ => HM1.out (by decide)), Lib.hid (fun _ => HM2.out (by decide)), Lib.hid (fun _ => HM3.out (by decide)), Lib.hid (fun _ => HG.out), Lib.hid (fun h => absurd h (by decide))⟩
                case measure => simp [intOf]
            · obtain ⟨b1, q1⟩ : ∃ b, fits m.y = b := ⟨_, rfl⟩
              cases b1
              · have HTL := Lib.hid (show tL = false by rw [← HLT.out]; exact letters_bad (by simp [q1]))
                have H := Lib.hid (show itemB true true tL tN tP tS tM 4 fn pl bl = false by rw [HTL.out]; simp [itemB])
                go_wp2_with (go_at_call 25; ((with_reducible refine (Rfix.fits_calls _ _).mono ?_); rintro e w' ⟨rfl, rfl⟩))
                go_ret
                exact ⟨by rw [H.out]; rfl, by (repeat' (first | (with_reducible first | exact Up.refl _ | assumption | refine Up.alloc ?_ _ | refine Up.drew ?_ | refine Up.drewN ?_ _ | refine Up.setCell ?_ ?_ _ | refine Up.call ?_ (by assumption)) | go_size))⟩
              · have HG := Lib.hid q1
                go_wp2_with (go_at_call 25; ((with_reducible refine (Rfix.fits_calls _ _).mono ?_); rintro e w' ⟨rfl, rfl⟩))
                go_roundw
                case rel => exact ⟨6, by decide, by go_num, Lib.hid (fun _ => HM0.out (by decide)), Lib.hid (fun _ => HM1.out (by decide)), Lib.hid (fun _ => HM2.out (by decide)), Lib.hid (fun _ => HM3.out (by decide)), Lib.hid (fun _ => HM4.out (by decide)), Lib.hid (fun _ => HG.out)⟩
                case measure => simp [intOf]
            · have HALL := Lib.hid (show ((lM m).any fun n => !fits n) = false by simp [lM, HM0.out (by decide), HM1.out (by decide), HM2.out (by decide), HM3.out (by decide), HM4.out (by decide), HM5.out (by decide)])
              obtain ⟨b_g1, g1⟩ : ∃ b, (decide (0 ≤ fn)) = b := ⟨_, rfl⟩
              cases b_g1
              · have HTL := Lib.hid (show tL = false by rw [← HLT.out]; exact letters_val HALL.out (by simp [g1]))
                have H := Lib.hid (show itemB true true tL tN tP tS tM 4 fn pl bl = false by rw [HTL.out]; simp [itemB])
                go_wp2
                go_ret
                exact ⟨by rw [H.out]; rfl, by (repeat' (first | (with_reducible first | exact Up.refl _ | assumption | refine Up.alloc ?_ _ | refine Up.drew ?_ | refine Up.drewN ?_ _ | refine Up.setCell ?_ ?_ _ | refine Up.call ?_ (by assumption)) | go_size))⟩
              obtain ⟨b_g2, g2⟩ : ∃ b, (decide (fn ≤ 13)) = b := ⟨_, rfl⟩
              cases b_g2
              · have HTL := Lib.hid (show tL = false by rw [← HLT.out]; exact letters_val HALL.out (by simp [g1, g2]))
                have H := Lib.hid (show itemB true true tL tN tP tS tM 4 fn pl bl = false by rw [HTL.out]; simp [itemB])
                go_wp2
                go_ret
                exact ⟨by rw [H.out]; rfl, by (repeat' (first | (with_reducible first | exact Up.refl _ | assumption | refine Up.alloc ?_ _ | refine Up.drew ?_ | refine Up.drewN ?_ _ | refine Up.setCell ?_ ?_ _ | refine Up.call ?_ (by assumption)) | go_size))⟩
              obtain ⟨b_g3, g3⟩ : ∃ b, (decide ((1 : Int) ≤ (bl : Int))) = b := ⟨_, rfl⟩
              cases b_g3
              · have HTL := Lib.hid (show tL = false by rw [← HLT.out]; exact letters_val HALL.out (by simp [g1, g2, g3]))
                have H := Lib.hid (show itemB true true tL tN tP tS tM 4 fn pl bl = false by rw [HTL.out]; simp [itemB])
                go_wp2
                go_ret
                exact ⟨by rw [H.out]; rfl, by (repeat' (first | (with_reducible first | exact Up.refl _ | assumption | refine Up.alloc ?_ _ | refine Up.drew ?_ | refine Up.drewN ?_ _ | refine Up.setCell ?_ ?_ _ | refine Up.call ?_ (by assumption)) | go_size))⟩
              obtain ⟨b_g4, g4⟩ : ∃ b, (decide ((bl : Int) ≤ 65535)) = b := ⟨_, rfl⟩
              cases b_g4
              · have HTL := Lib.hid (show tL = false by rw [← HLT.out]; exact letters_val HALL.out (by simp [g1, g2, g3, g4]))
                have H := Lib.hid (show itemB true true tL tN tP tS tM 4 fn pl bl = false by rw [HTL.out]; simp [itemB])
                go_wp2
                go_ret
                exact ⟨by rw [H.out]; rfl, by (repeat' (first | (with_reducible first | exact Up.refl _ | assumption | refine Up.alloc ?_ _ | refine Up.drew ?_ | refine Up.drewN ?_ _ | refine Up.setCell ?_ ?_ _ | refine Up.call ?_ (by assumption)) | go_size))⟩
              obtain ⟨b_g5, g5⟩ : ∃ b, ((pl : Int) == 0) = b := ⟨_, rfl⟩
              cases b_g5
              · have HTL := Lib.hid (show tL = true by rw [← HLT.out]; exact letters_val HALL.out (by simp [g1, g2, g3, g4]))
                have H := Lib.hid (show itemB true true tL tN tP tS tM 4 fn pl bl = false by rw [HTL.out]; simp [itemB, g5])
                go_wp2
                go_ret
                exact ⟨by rw [H.out]; rfl, by (repeat' (first | (with_reducible first | exact Up.refl _ | assumption | refine Up.alloc ?_ _ | refine Up.drew ?_ | refine Up.drewN ?_ _ | refine Up.setCell ?_ ?_ _ | refine Up.call ?_ (by assumption)) | go_size))⟩
              have HTL := Lib.hid (show tL = true by rw [← HLT.out]; exact letters_val HALL.out (by simp [g1, g2, g3, g4]))
              have H := Lib.hid (show itemB true true tL tN tP tS tM 4 fn pl bl = tN by rw [HTL.out]; simp [itemB, g5])
              go_wp2
              go_ret
              exact ⟨by rw [H.out]; rfl, by (repeat' (first | (with_reducible first | exact Up.refl _ | assumption | refine Up.alloc ?_ _ | refine Up.drew ?_ | refine Up.drewN ?_ _ | refine Up.setCell ?_ ?_ _ | refine Up.call ?_ (by assumption)) | go_size))⟩
        have e4 : (k == 4) = false := by simpa using hk
        obtain ⟨b_k1, k1⟩ : ∃ b, decide (k < 1) = b := ⟨_, rfl⟩
        cases b_k1
        rotate_left
        · have H := Lib.hid (show itemB true true tL tN tP tS tM k fn pl bl = false by have h1 : k < 1 := (by simpa using k1); have a1 : ¬ k = 1 := (by omega); have a2 : ¬ k = 2 := (by omega); have a3 : ¬ k = 3 := (by omega); simp [itemB, hk, a1, a2, a3])
          go_wp2_with (first
            | (go_at_call 24; ((with_reducible refine (samePen_calls wd cp jn mt ph da dl dc _).mono ?_); rw [HNO.out]; rintro E w4 ⟨rfl, hu4⟩; have z4 := hu4.size; (try simp at z4); have Rw4 : Row w4 w.heap.size #[.int .i64 k, .slice pa pl pc, .int .i64 4, .int .i64 p0, .int .i64 p1, .int .i64 p2, .int .i64 p3, .slice ca cl cc, .int .i64 wd, .int .i64 cp, .int .i64 jn, .int .i64 mt, .slice da dl dc, .int .i64 ph, .int .i64 fn, .int .i64 m.a, .int .i64 m.b, .int .i64 m.c, .int .i64 m.d, .int .i64 m.x, .int .i64 m.y, .slice ba bl bc] := Row.up (show Row _ w.heap.size #[.int .i64 k, .slice pa pl pc, .int .i64 4, .int .i64 p0, .int .i64 p1, .int .i64 p2, .int .i64 p3, .slice ca cl cc, .int .i64 wd, .int .i64 cp, .int .i64 jn, .int .i64 mt, .slice da dl dc, .int .i64 ph, .int .i64 fn, .int .i64 m.a, .int .i64 m.b, .int .i64 m.c, .int .i64 m.d, .int .i64 m.x, .int .i64 m.y, .slice ba bl bc] by (repeat' (with_reducible first | assumption | (refine Row.at _ _ ?_; (simp; done)) | refine Row.alloc ?_ _ | refine Row.drew ?_ | refine Row.drewN ?_ _ | refine Row.other ?_ (by first | (simp; done) | (simp; omega) | omega) _ | refine Row.up ?_ (by assumption) | refine Row.chg ?_ (by assumption) (by first | (simp; done) | (simp; omega))))) hu4; have lw4 := Rw4.lt; have qw4_0 : w4.cell? ⟨w.heap.size, 0, none⟩ = some (.int .i64 k) := Rw4.cell 0 rfl; have qw4_1 : w4.cell? ⟨w.heap.size, 1, none⟩ = some (.slice pa pl pc) := Rw4.cell 1 rfl; have qw4_7 : w4.cell? ⟨w.heap.size, 7, none⟩ = some (.slice ca cl cc) := Rw4.cell 7 rfl; have qw4_8 : w4.cell? ⟨w.heap.size, 8, none⟩ = some (.int .i64 wd) := Rw4.cell 8 rfl; have qw4_9 : w4.cell? ⟨w.heap.size, 9, none⟩ = some (.int .i64 cp) := Rw4.cell 9 rfl; have qw4_10 : w4.cell? ⟨w.heap.size, 10, none⟩ = some (.int .i64 jn) := Rw4.cell 10 rfl; have qw4_11 : w4.cell? ⟨w.heap.size, 11, none⟩ = some (.int .i64 mt) := Rw4.cell 11 rfl; have qw4_12 : w4.cell? ⟨w.heap.size, 12, none⟩ = some (.slice da dl dc) := Rw4.cell 12 rfl; have qw4_13 : w4.cell? ⟨w.heap.size, 13, none⟩ = some (.int .i64 ph) := Rw4.cell 13 rfl; have qw4_14 : w4.cell? ⟨w.heap.size, 14, none⟩ = some (.int .i64 fn) := Rw4.cell 14 rfl; have qw4_15 : w4.cell? ⟨w.heap.size, 15, none⟩ = some (.int .i64 m.a) := Rw4.cell 15 rfl; have qw4_16 : w4.cell? ⟨w.heap.size, 16, none⟩ = some (.int .i64 m.b) := Rw4.cell 16 rfl; have qw4_17 : w4.cell? ⟨w.heap.size, 17, none⟩ = some (.int .i64 m.c) := Rw4.cell 17 rfl; have qw4_18 : w4.cell? ⟨w.heap.size, 18, none⟩ = some (.int .i64 m.d) := Rw4.cell 18 rfl; have qw4_19 : w4.cell? ⟨w.heap.size, 19, none⟩ = some (.int .i64 m.x) := Rw4.cell 19 rfl; have qw4_20 : w4.cell? ⟨w.heap.size, 20, none⟩ = some (.int .i64 m.y) := Rw4.cell 20 rfl; have qw4_21 : w4.cell? ⟨w.heap.size, 21, none⟩ = some (.slice ba bl bc) := Rw4.cell 21 rfl; have u4 : Up w w4 := (by (repeat' (first | (with_reducible first | exact Up.refl _ | assumption | refine Up.alloc ?_ _ | refine Up.drew ?_ | refine Up.drewN ?_ _ | refine Up.setCell ?_ ?_ _ | refine Up.call ?_ (by assumption)) | go_size))))))
          go_ret
          exact ⟨by rw [H.out]; rfl, by (repeat' (first | (with_reducible first | exact Up.refl _ | assumption | refine Up.alloc ?_ _ | refine Up.drew ?_ | refine Up.drewN ?_ _ | refine Up.setCell ?_ ?_ _ | refine Up.call ?_ (by assumption)) | go_size))⟩
        obtain ⟨b_k3, k3⟩ : ∃ b, decide (3 < k) = b := ⟨_, rfl⟩
        cases b_k3
        rotate_left
        · have H := Lib.hid (show itemB true true tL tN tP tS tM k fn pl bl = false by have h1 : 3 < k := (by simpa using k3); have a1 : ¬ k = 1 := (by omega); have a2 : ¬ k = 2 := (by omega); have a3 : ¬ k = 3 := (by omega); simp [itemB, hk, a1, a2, a3])
          go_wp2_with (first
            | (go_at_call 24; ((with_reducible refine (samePen_calls wd cp jn mt ph da dl dc _).mono ?_); rw [HNO.out]; rintro E w4 ⟨rfl, hu4⟩; have z4 := hu4.size; (try simp at z4); have Rw4 : Row w4 w.heap.size #[.int .i64 k, .slice pa pl pc, .int .i64 4, .int .i64 p0, .int .i64 p1, .int .i64 p2, .int .i64 p3, .slice ca cl cc, .int .i64 wd, .int .i64 cp, .int .i64 jn, .int .i64 mt, .slice da dl dc, .int .i64 ph, .int .i64 fn, .int .i64 m.a, .int .i64 m.b, .int .i64 m.c, .int .i64 m.d, .int .i64 m.x, .int .i64 m.y, .slice ba bl bc] := Row.up (show Row _ w.heap.size #[.int .i64 k, .slice pa pl pc, .int .i64 4, .int .i64 p0, .int .i64 p1, .int .i64 p2, .int .i64 p3, .slice ca cl cc, .int .i64 wd, .int .i64 cp, .int .i64 jn, .int .i64 mt, .slice da dl dc, .int .i64 ph, .int .i64 fn, .int .i64 m.a, .int .i64 m.b, .int .i64 m.c, .int .i64 m.d, .int .i64 m.x, .int .i64 m.y, .slice ba bl bc] by (repeat' (with_reducible first | assumption | (refine Row.at _ _ ?_; (simp; done)) | refine Row.alloc ?_ _ | refine Row.drew ?_ | refine Row.drewN ?_ _ | refine Row.other ?_ (by first | (simp; done) | (simp; omega) | omega) _ | refine Row.up ?_ (by assumption) | refine Row.chg ?_ (by assumption) (by first | (simp; done) | (simp; omega))))) hu4; have lw4 := Rw4.lt; have qw4_0 : w4.cell? ⟨w.heap.size, 0, none⟩ = some (.int .i64 k) := Rw4.cell 0 rfl; have qw4_1 : w4.cell? ⟨w.heap.size, 1, none⟩ = some (.slice pa pl pc) := Rw4.cell 1 rfl; have qw4_7 : w4.cell? ⟨w.heap.size, 7, none⟩ = some (.slice ca cl cc) := Rw4.cell 7 rfl; have qw4_8 : w4.cell? ⟨w.heap.size, 8, none⟩ = some (.int .i64 wd) := Rw4.cell 8 rfl; have qw4_9 : w4.cell? ⟨w.heap.size, 9, none⟩ = some (.int .i64 cp) := Rw4.cell 9 rfl; have qw4_10 : w4.cell? ⟨w.heap.size, 10, none⟩ = some (.int .i64 jn) := Rw4.cell 10 rfl; have qw4_11 : w4.cell? ⟨w.heap.size, 11, none⟩ = some (.int .i64 mt) := Rw4.cell 11 rfl; have qw4_12 : w4.cell? ⟨w.heap.size, 12, none⟩ = some (.slice da dl dc) := Rw4.cell 12 rfl; have qw4_13 : w4.cell? ⟨w.heap.size, 13, none⟩ = some (.int .i64 ph) := Rw4.cell 13 rfl; have qw4_14 : w4.cell? ⟨w.heap.size, 14, none⟩ = some (.int .i64 fn) := Rw4.cell 14 rfl; have qw4_15 : w4.cell? ⟨w.heap.size, 15, none⟩ = some (.int .i64 m.a) := Rw4.cell 15 rfl; have qw4_16 : w4.cell? ⟨w.heap.size, 16, none⟩ = some (.int .i64 m.b) := Rw4.cell 16 rfl; have qw4_17 : w4.cell? ⟨w.heap.size, 17, none⟩ = some (.int .i64 m.c) := Rw4.cell 17 rfl; have qw4_18 : w4.cell? ⟨w.heap.size, 18, none⟩ = some (.int .i64 m.d) := Rw4.cell 18 rfl; have qw4_19 : w4.cell? ⟨w.heap.size, 19, none⟩ = some (.int .i64 m.x) := Rw4.cell 19 rfl; have qw4_20 : w4.cell? ⟨w.heap.size, 20, none⟩ = some (.int .i64 m.y) := Rw4.cell 20 rfl; have qw4_21 : w4.cell? ⟨w.heap.size, 21, none⟩ = some (.slice ba bl bc) := Rw4.cell 21 rfl; have u4 : Up w w4 := (by (repeat' (first | (with_reducible first | exact Up.refl _ | assumption | refine Up.alloc ?_ _ | refine Up.drew ?_ | refine Up.drewN ?_ _ | refine Up.setCell ?_ ?_ _ | refine Up.call ?_ (by assumption)) | go_size))))))
          go_ret
          exact ⟨by rw [H.out]; rfl, by (repeat' (first | (with_reducible first | exact Up.refl _ | assumption | refine Up.alloc ?_ _ | refine Up.drew ?_ | refine Up.drewN ?_ _ | refine Up.setCell ?_ ?_ _ | refine Up.call ?_ (by assumption)) | go_size))⟩
        obtain ⟨b_h2, h2⟩ : ∃ b, (fn != 0) = b := ⟨_, rfl⟩
        cases b_h2
        rotate_left
        · have H := Lib.hid (show (itemB true true tL tN tP tS tM k fn pl bl) = false by simp only [itemB, hk, h2] <;> simp)
          go_wp2_with (first
            | (go_at_call 24; ((with_reducible refine (samePen_calls wd cp jn mt ph da dl dc _).mono ?_); rw [HNO.out]; rintro E w4 ⟨rfl, hu4⟩; have z4 := hu4.size; (try simp at z4); have Rw4 : Row w4 w.heap.size #[.int .i64 k, .slice pa pl pc, .int .i64 4, .int .i64 p0, .int .i64 p1, .int .i64 p2, .int .i64 p3, .slice ca cl cc, .int .i64 wd, .int .i64 cp, .int .i64 jn, .int .i64 mt, .slice da dl dc, .int .i64 ph, .int .i64 fn, .int .i64 m.a, .int .i64 m.b, .int .i64 m.c, .int .i64 m.d, .int .i64 m.x, .int .i64 m.y, .slice ba bl bc] := Row.up (show Row _ w.heap.size #[.int .i64 k, .slice pa pl pc, .int .i64 4, .int .i64 p0, .int .i64 p1, .int .i64 p2, .int .i64 p3, .slice ca cl cc, .int .i64 wd, .int .i64 cp, .int .i64 jn, .int .i64 mt, .slice da dl dc, .int .i64 ph, .int .i64 fn, .int .i64 m.a, .int .i64 m.b, .int .i64 m.c, .int .i64 m.d, .int .i64 m.x, .int .i64 m.y, .slice ba bl bc] by (repeat' (with_reducible first | assumption | (refine Row.at _ _ ?_; (simp; done)) | refine Row.alloc ?_ _ | refine Row.drew ?_ | refine Row.drewN ?_ _ | refine Row.other ?_ (by first | (simp; done) | (simp; omega) | omega) _ | refine Row.up ?_ (by assumption) | refine Row.chg ?_ (by assumption) (by first | (simp; done) | (simp; omega))))) hu4; have lw4 := Rw4.lt; have qw4_0 : w4.cell? ⟨w.heap.size, 0, none⟩ = some (.int .i64 k) := Rw4.cell 0 rfl; have qw4_1 : w4.cell? ⟨w.heap.size, 1, none⟩ = some (.slice pa pl pc) := Rw4.cell 1 rfl; have qw4_7 : w4.cell? ⟨w.heap.size, 7, none⟩ = some (.slice ca cl cc) := Rw4.cell 7 rfl; have qw4_8 : w4.cell? ⟨w.heap.size, 8, none⟩ = some (.int .i64 wd) := Rw4.cell 8 rfl; have qw4_9 : w4.cell? ⟨w.heap.size, 9, none⟩ = some (.int .i64 cp) := Rw4.cell 9 rfl; have qw4_10 : w4.cell? ⟨w.heap.size, 10, none⟩ = some (.int .i64 jn) := Rw4.cell 10 rfl; have qw4_11 : w4.cell? ⟨w.heap.size, 11, none⟩ = some (.int .i64 mt) := Rw4.cell 11 rfl; have qw4_12 : w4.cell? ⟨w.heap.size, 12, none⟩ = some (.slice da dl dc) := Rw4.cell 12 rfl; have qw4_13 : w4.cell? ⟨w.heap.size, 13, none⟩ = some (.int .i64 ph) := Rw4.cell 13 rfl; have qw4_14 : w4.cell? ⟨w.heap.size, 14, none⟩ = some (.int .i64 fn) := Rw4.cell 14 rfl; have qw4_15 : w4.cell? ⟨w.heap.size, 15, none⟩ = some (.int .i64 m.a) := Rw4.cell 15 rfl; have qw4_16 : w4.cell? ⟨w.heap.size, 16, none⟩ = some (.int .i64 m.b) := Rw4.cell 16 rfl; have qw4_17 : w4.cell? ⟨w.heap.size, 17, none⟩ = some (.int .i64 m.c) := Rw4.cell 17 rfl; have qw4_18 : w4.cell? ⟨w.heap.size, 18, none⟩ = some (.int .i64 m.d) := Rw4.cell 18 rfl; have qw4_19 : w4.cell? ⟨w.heap.size, 19, none⟩ = some (.int .i64 m.x) := Rw4.cell 19 rfl; have qw4_20 : w4.cell? ⟨w.heap.size, 20, none⟩ = some (.int .i64 m.y) := Rw4.cell 20 rfl; have qw4_21 : w4.cell? ⟨w.heap.size, 21, none⟩ = some (.slice ba bl bc) := Rw4.cell 21 rfl; have u4 : Up w w4 := (by (repeat' (first | (with_reducible first | exact Up.refl _ | assumption | refine Up.alloc ?_ _ | refine Up.drew ?_ | refine Up.drewN ?_ _ | refine Up.setCell ?_ ?_ _ | refine Up.call ?_ (by assumption)) | go_size))))))
          go_ret
          exact ⟨by rw [H.out]; rfl, by (repeat' (first | (with_reducible first | exact Up.refl _ | assumption | refine Up.alloc ?_ _ | refine Up.drew ?_ | refine Up.drewN ?_ _ | refine Up.setCell ?_ ?_ _ | refine Up.call ?_ (by assumption)) | go_size))⟩
        cases tM
        · have H := Lib.hid (show (itemB true true tL tN tP tS false k fn pl bl) = false by simp only [itemB, hk, h2] <;> simp)
          go_wp2_with (first
            | (go_at_call 24; ((with_reducible refine (samePen_calls wd cp jn mt ph da dl dc _).mono ?_); rw [HNO.out]; rintro E w4 ⟨rfl, hu4⟩; have z4 := hu4.size; (try simp at z4); have Rw4 : Row w4 w.heap.size #[.int .i64 k, .slice pa pl pc, .int .i64 4, .int .i64 p0, .int .i64 p1, .int .i64 p2, .int .i64 p3, .slice ca cl cc, .int .i64 wd, .int .i64 cp, .int .i64 jn, .int .i64 mt, .slice da dl dc, .int .i64 ph, .int .i64 fn, .int .i64 m.a, .int .i64 m.b, .int .i64 m.c, .int .i64 m.d, .int .i64 m.x, .int .i64 m.y, .slice ba bl bc] := Row.up (show Row _ w.heap.size #[.int .i64 k, .slice pa pl pc, .int .i64 4, .int .i64 p0, .int .i64 p1, .int .i64 p2, .int .i64 p3, .slice ca cl cc, .int .i64 wd, .int .i64 cp, .int .i64 jn, .int .i64 mt, .slice da dl dc, .int .i64 ph, .int .i64 fn, .int .i64 m.a, .int .i64 m.b, .int .i64 m.c, .int .i64 m.d, .int .i64 m.x, .int .i64 m.y, .slice ba bl bc] by (repeat' (with_reducible first | assumption | (refine Row.at _ _ ?_; (simp; done)) | refine Row.alloc ?_ _ | refine Row.drew ?_ | refine Row.drewN ?_ _ | refine Row.other ?_ (by first | (simp; done) | (simp; omega) | omega) _ | refine Row.up ?_ (by assumption) | refine Row.chg ?_ (by assumption) (by first | (simp; done) | (simp; omega))))) hu4; have lw4 := Rw4.lt; have qw4_0 : w4.cell? ⟨w.heap.size, 0, none⟩ = some (.int .i64 k) := Rw4.cell 0 rfl; have qw4_1 : w4.cell? ⟨w.heap.size, 1, none⟩ = some (.slice pa pl pc) := Rw4.cell 1 rfl; have qw4_7 : w4.cell? ⟨w.heap.size, 7, none⟩ = some (.slice ca cl cc) := Rw4.cell 7 rfl; have qw4_8 : w4.cell? ⟨w.heap.size, 8, none⟩ = some (.int .i64 wd) := Rw4.cell 8 rfl; have qw4_9 : w4.cell? ⟨w.heap.size, 9, none⟩ = some (.int .i64 cp) := Rw4.cell 9 rfl; have qw4_10 : w4.cell? ⟨w.heap.size, 10, none⟩ = some (.int .i64 jn) := Rw4.cell 10 rfl; have qw4_11 : w4.cell? ⟨w.heap.size, 11, none⟩ = some (.int .i64 mt) := Rw4.cell 11 rfl; have qw4_12 : w4.cell? ⟨w.heap.size, 12, none⟩ = some (.slice da dl dc) := Rw4.cell 12 rfl; have qw4_13 : w4.cell? ⟨w.heap.size, 13, none⟩ = some (.int .i64 ph) := Rw4.cell 13 rfl; have qw4_14 : w4.cell? ⟨w.heap.size, 14, none⟩ = some (.int .i64 fn) := Rw4.cell 14 rfl; have qw4_15 : w4.cell? ⟨w.heap.size, 15, none⟩ = some (.int .i64 m.a) := Rw4.cell 15 rfl; have qw4_16 : w4.cell? ⟨w.heap.size, 16, none⟩ = some (.int .i64 m.b) := Rw4.cell 16 rfl; have qw4_17 : w4.cell? ⟨w.heap.size, 17, none⟩ = some (.int .i64 m.c) := Rw4.cell 17 rfl; have qw4_18 : w4.cell? ⟨w.heap.size, 18, none⟩ = some (.int .i64 m.d) := Rw4.cell 18 rfl; have qw4_19 : w4.cell? ⟨w.heap.size, 19, none⟩ = some (.int .i64 m.x) := Rw4.cell 19 rfl; have qw4_20 : w4.cell? ⟨w.heap.size, 20, none⟩ = some (.int .i64 m.y) := Rw4.cell 20 rfl; have qw4_21 : w4.cell? ⟨w.heap.size, 21, none⟩ = some (.slice ba bl bc) := Rw4.cell 21 rfl; have u4 : Up w w4 := (by (repeat' (first | (with_reducible first | exact Up.refl _ | assumption | refine Up.alloc ?_ _ | refine Up.drew ?_ | refine Up.drewN ?_ _ | refine Up.setCell ?_ ?_ _ | refine Up.call ?_ (by assumption)) | go_size))))))
          go_ret
          exact ⟨by rw [H.out]; rfl, by (repeat' (first | (with_reducible first | exact Up.refl _ | assumption | refine Up.alloc ?_ _ | refine Up.drew ?_ | refine Up.drewN ?_ _ | refine Up.setCell ?_ ?_ _ | refine Up.call ?_ (by assumption)) | go_size))⟩
        obtain ⟨b_h3, h3⟩ : ∃ b, (decide (0 < bl)) = b := ⟨_, rfl⟩
        cases b_h3
        rotate_left
        · have H := Lib.hid (show (itemB true true tL tN tP tS true k fn pl bl) = false by simp only [itemB, hk, h2, h3] <;> simp)
          go_wp2_with (first
            | (go_at_call 24; ((with_reducible refine (samePen_calls wd cp jn mt ph da dl dc _).mono ?_); rw [HNO.out]; rintro E w4 ⟨rfl, hu4⟩; have z4 := hu4.size; (try simp at z4); have Rw4 : Row w4 w.heap.size #[.int .i64 k, .slice pa pl pc, .int .i64 4, .int .i64 p0, .int .i64 p1, .int .i64 p2, .int .i64 p3, .slice ca cl cc, .int .i64 wd, .int .i64 cp, .int .i64 jn, .int .i64 mt, .slice da dl dc, .int .i64 ph, .int .i64 fn, .int .i64 m.a, .int .i64 m.b, .int .i64 m.c, .int .i64 m.d, .int .i64 m.x, .int .i64 m.y, .slice ba bl bc] := Row.up (show Row _ w.heap.size #[.int .i64 k, .slice pa pl pc, .int .i64 4, .int .i64 p0, .int .i64 p1, .int .i64 p2, .int .i64 p3, .slice ca cl cc, .int .i64 wd, .int .i64 cp, .int .i64 jn, .int .i64 mt, .slice da dl dc, .int .i64 ph, .int .i64 fn, .int .i64 m.a, .int .i64 m.b, .int .i64 m.c, .int .i64 m.d, .int .i64 m.x, .int .i64 m.y, .slice ba bl bc] by (repeat' (with_reducible first | assumption | (refine Row.at _ _ ?_; (simp; done)) | refine Row.alloc ?_ _ | refine Row.drew ?_ | refine Row.drewN ?_ _ | refine Row.other ?_ (by first | (simp; done) | (simp; omega) | omega) _ | refine Row.up ?_ (by assumption) | refine Row.chg ?_ (by assumption) (by first | (simp; done) | (simp; omega))))) hu4; have lw4 := Rw4.lt; have qw4_0 : w4.cell? ⟨w.heap.size, 0, none⟩ = some (.int .i64 k) := Rw4.cell 0 rfl; have qw4_1 : w4.cell? ⟨w.heap.size, 1, none⟩ = some (.slice pa pl pc) := Rw4.cell 1 rfl; have qw4_7 : w4.cell? ⟨w.heap.size, 7, none⟩ = some (.slice ca cl cc) := Rw4.cell 7 rfl; have qw4_8 : w4.cell? ⟨w.heap.size, 8, none⟩ = some (.int .i64 wd) := Rw4.cell 8 rfl; have qw4_9 : w4.cell? ⟨w.heap.size, 9, none⟩ = some (.int .i64 cp) := Rw4.cell 9 rfl; have qw4_10 : w4.cell? ⟨w.heap.size, 10, none⟩ = some (.int .i64 jn) := Rw4.cell 10 rfl; have qw4_11 : w4.cell? ⟨w.heap.size, 11, none⟩ = some (.int .i64 mt) := Rw4.cell 11 rfl; have qw4_12 : w4.cell? ⟨w.heap.size, 12, none⟩ = some (.slice da dl dc) := Rw4.cell 12 rfl; have qw4_13 : w4.cell? ⟨w.heap.size, 13, none⟩ = some (.int .i64 ph) := Rw4.cell 13 rfl; have qw4_14 : w4.cell? ⟨w.heap.size, 14, none⟩ = some (.int .i64 fn) := Rw4.cell 14 rfl; have qw4_15 : w4.cell? ⟨w.heap.size, 15, none⟩ = some (.int .i64 m.a) := Rw4.cell 15 rfl; have qw4_16 : w4.cell? ⟨w.heap.size, 16, none⟩ = some (.int .i64 m.b) := Rw4.cell 16 rfl; have qw4_17 : w4.cell? ⟨w.heap.size, 17, none⟩ = some (.int .i64 m.c) := Rw4.cell 17 rfl; have qw4_18 : w4.cell? ⟨w.heap.size, 18, none⟩ = some (.int .i64 m.d) := Rw4.cell 18 rfl; have qw4_19 : w4.cell? ⟨w.heap.size, 19, none⟩ = some (.int .i64 m.x) := Rw4.cell 19 rfl; have qw4_20 : w4.cell? ⟨w.heap.size, 20, none⟩ = some (.int .i64 m.y) := Rw4.cell 20 rfl; have qw4_21 : w4.cell? ⟨w.heap.size, 21, none⟩ = some (.slice ba bl bc) := Rw4.cell 21 rfl; have u4 : Up w w4 := (by (repeat' (first | (with_reducible first | exact Up.refl _ | assumption | refine Up.alloc ?_ _ | refine Up.drew ?_ | refine Up.drewN ?_ _ | refine Up.setCell ?_ ?_ _ | refine Up.call ?_ (by assumption)) | go_size))))))
          go_ret
          exact ⟨by rw [H.out]; rfl, by (repeat' (first | (with_reducible first | exact Up.refl _ | assumption | refine Up.alloc ?_ _ | refine Up.drew ?_ | refine Up.drewN ?_ _ | refine Up.setCell ?_ ?_ _ | refine Up.call ?_ (by assumption)) | go_size))⟩
        obtain ⟨b_h4, h4⟩ : ∃ b, ((pl : Int) == 0) = b := ⟨_, rfl⟩
        cases b_h4
        rotate_left
        · have H := Lib.hid (show (itemB true true tL tN tP tS true k fn pl bl) = false by simp only [itemB, hk, h2, h3, h4] <;> simp)
          go_wp2_with (first
            | (go_at_call 24; ((with_reducible refine (samePen_calls wd cp jn mt ph da dl dc _).mono ?_); rw [HNO.out]; rintro E w4 ⟨rfl, hu4⟩; have z4 := hu4.size; (try simp at z4); have Rw4 : Row w4 w.heap.size #[.int .i64 k, .slice pa pl pc, .int .i64 4, .int .i64 p0, .int .i64 p1, .int .i64 p2, .int .i64 p3, .slice ca cl cc, .int .i64 wd, .int .i64 cp, .int .i64 jn, .int .i64 mt, .slice da dl dc, .int .i64 ph, .int .i64 fn, .int .i64 m.a, .int .i64 m.b, .int .i64 m.c, .int .i64 m.d, .int .i64 m.x, .int .i64 m.y, .slice ba bl bc] := Row.up (show Row _ w.heap.size #[.int .i64 k, .slice pa pl pc, .int .i64 4, .int .i64 p0, .int .i64 p1, .int .i64 p2, .int .i64 p3, .slice ca cl cc, .int .i64 wd, .int .i64 cp, .int .i64 jn, .int .i64 mt, .slice da dl dc, .int .i64 ph, .int .i64 fn, .int .i64 m.a, .int .i64 m.b, .int .i64 m.c, .int .i64 m.d, .int .i64 m.x, .int .i64 m.y, .slice ba bl bc] by (repeat' (with_reducible first | assumption | (refine Row.at _ _ ?_; (simp; done)) | refine Row.alloc ?_ _ | refine Row.drew ?_ | refine Row.drewN ?_ _ | refine Row.other ?_ (by first | (simp; done) | (simp; omega) | omega) _ | refine Row.up ?_ (by assumption) | refine Row.chg ?_ (by assumption) (by first | (simp; done) | (simp; omega))))) hu4; have lw4 := Rw4.lt; have qw4_0 : w4.cell? ⟨w.heap.size, 0, none⟩ = some (.int .i64 k) := Rw4.cell 0 rfl; have qw4_1 : w4.cell? ⟨w.heap.size, 1, none⟩ = some (.slice pa pl pc) := Rw4.cell 1 rfl; have qw4_7 : w4.cell? ⟨w.heap.size, 7, none⟩ = some (.slice ca cl cc) := Rw4.cell 7 rfl; have qw4_8 : w4.cell? ⟨w.heap.size, 8, none⟩ = some (.int .i64 wd) := Rw4.cell 8 rfl; have qw4_9 : w4.cell? ⟨w.heap.size, 9, none⟩ = some (.int .i64 cp) := Rw4.cell 9 rfl; have qw4_10 : w4.cell? ⟨w.heap.size, 10, none⟩ = some (.int .i64 jn) := Rw4.cell 10 rfl; have qw4_11 : w4.cell? ⟨w.heap.size, 11, none⟩ = some (.int .i64 mt) := Rw4.cell 11 rfl; have qw4_12 : w4.cell? ⟨w.heap.size, 12, none⟩ = some (.slice da dl dc) := Rw4.cell 12 rfl; have qw4_13 : w4.cell? ⟨w.heap.size, 13, none⟩ = some (.int .i64 ph) := Rw4.cell 13 rfl; have qw4_14 : w4.cell? ⟨w.heap.size, 14, none⟩ = some (.int .i64 fn) := Rw4.cell 14 rfl; have qw4_15 : w4.cell? ⟨w.heap.size, 15, none⟩ = some (.int .i64 m.a) := Rw4.cell 15 rfl; have qw4_16 : w4.cell? ⟨w.heap.size, 16, none⟩ = some (.int .i64 m.b) := Rw4.cell 16 rfl; have qw4_17 : w4.cell? ⟨w.heap.size, 17, none⟩ = some (.int .i64 m.c) := Rw4.cell 17 rfl; have qw4_18 : w4.cell? ⟨w.heap.size, 18, none⟩ = some (.int .i64 m.d) := Rw4.cell 18 rfl; have qw4_19 : w4.cell? ⟨w.heap.size, 19, none⟩ = some (.int .i64 m.x) := Rw4.cell 19 rfl; have qw4_20 : w4.cell? ⟨w.heap.size, 20, none⟩ = some (.int .i64 m.y) := Rw4.cell 20 rfl; have qw4_21 : w4.cell? ⟨w.heap.size, 21, none⟩ = some (.slice ba bl bc) := Rw4.cell 21 rfl; have u4 : Up w w4 := (by (repeat' (first | (with_reducible first | exact Up.refl _ | assumption | refine Up.alloc ?_ _ | refine Up.drew ?_ | refine Up.drewN ?_ _ | refine Up.setCell ?_ ?_ _ | refine Up.call ?_ (by assumption)) | go_size))))))
          go_ret
          exact ⟨by rw [H.out]; rfl, by (repeat' (first | (with_reducible first | exact Up.refl _ | assumption | refine Up.alloc ?_ _ | refine Up.drew ?_ | refine Up.drewN ?_ _ | refine Up.setCell ?_ ?_ _ | refine Up.call ?_ (by assumption)) | go_size))⟩
        cases tS
        · have H := Lib.hid (show (itemB true true tL tN tP false true k fn pl bl) = false by simp only [itemB, hk, h2, h3, h4] <;> simp)
          go_wp2_with (first
            | (go_at_call 24; ((with_reducible refine (samePen_calls wd cp jn mt ph da dl dc _).mono ?_); rw [HNO.out]; rintro E w4 ⟨rfl, hu4⟩; have z4 := hu4.size; (try simp at z4); have Rw4 : Row w4 w.heap.size #[.int .i64 k, .slice pa pl pc, .int .i64 4, .int .i64 p0, .int .i64 p1, .int .i64 p2, .int .i64 p3, .slice ca cl cc, .int .i64 wd, .int .i64 cp, .int .i64 jn, .int .i64 mt, .slice da dl dc, .int .i64 ph, .int .i64 fn, .int .i64 m.a, .int .i64 m.b, .int .i64 m.c, .int .i64 m.d, .int .i64 m.x, .int .i64 m.y, .slice ba bl bc] := Row.up (show Row _ w.heap.size #[.int .i64 k, .slice pa pl pc, .int .i64 4, .int .i64 p0, .int .i64 p1, .int .i64 p2, .int .i64 p3, .slice ca cl cc, .int .i64 wd, .int .i64 cp, .int .i64 jn, .int .i64 mt, .slice da dl dc, .int .i64 ph, .int .i64 fn, .int .i64 m.a, .int .i64 m.b, .int .i64 m.c, .int .i64 m.d, .int .i64 m.x, .int .i64 m.y, .slice ba bl bc] by (repeat' (with_reducible first | assumption | (refine Row.at _ _ ?_; (simp; done)) | refine Row.alloc ?_ _ | refine Row.drew ?_ | refine Row.drewN ?_ _ | refine Row.other ?_ (by first | (simp; done) | (simp; omega) | omega) _ | refine Row.up ?_ (by assumption) | refine Row.chg ?_ (by assumption) (by first | (simp; done) | (simp; omega))))) hu4; have lw4 := Rw4.lt; have qw4_0 : w4.cell? ⟨w.heap.size, 0, none⟩ = some (.int .i64 k) := Rw4.cell 0 rfl; have qw4_1 : w4.cell? ⟨w.heap.size, 1, none⟩ = some (.slice pa pl pc) := Rw4.cell 1 rfl; have qw4_7 : w4.cell? ⟨w.heap.size, 7, none⟩ = some (.slice ca cl cc) := Rw4.cell 7 rfl; have qw4_8 : w4.cell? ⟨w.heap.size, 8, none⟩ = some (.int .i64 wd) := Rw4.cell 8 rfl; have qw4_9 : w4.cell? ⟨w.heap.size, 9, none⟩ = some (.int .i64 cp) := Rw4.cell 9 rfl; have qw4_10 : w4.cell? ⟨w.heap.size, 10, none⟩ = some (.int .i64 jn) := Rw4.cell 10 rfl; have qw4_11 : w4.cell? ⟨w.heap.size, 11, none⟩ = some (.int .i64 mt) := Rw4.cell 11 rfl; have qw4_12 : w4.cell? ⟨w.heap.size, 12, none⟩ = some (.slice da dl dc) := Rw4.cell 12 rfl; have qw4_13 : w4.cell? ⟨w.heap.size, 13, none⟩ = some (.int .i64 ph) := Rw4.cell 13 rfl; have qw4_14 : w4.cell? ⟨w.heap.size, 14, none⟩ = some (.int .i64 fn) := Rw4.cell 14 rfl; have qw4_15 : w4.cell? ⟨w.heap.size, 15, none⟩ = some (.int .i64 m.a) := Rw4.cell 15 rfl; have qw4_16 : w4.cell? ⟨w.heap.size, 16, none⟩ = some (.int .i64 m.b) := Rw4.cell 16 rfl; have qw4_17 : w4.cell? ⟨w.heap.size, 17, none⟩ = some (.int .i64 m.c) := Rw4.cell 17 rfl; have qw4_18 : w4.cell? ⟨w.heap.size, 18, none⟩ = some (.int .i64 m.d) := Rw4.cell 18 rfl; have qw4_19 : w4.cell? ⟨w.heap.size, 19, none⟩ = some (.int .i64 m.x) := Rw4.cell 19 rfl; have qw4_20 : w4.cell? ⟨w.heap.size, 20, none⟩ = some (.int .i64 m.y) := Rw4.cell 20 rfl; have qw4_21 : w4.cell? ⟨w.heap.size, 21, none⟩ = some (.slice ba bl bc) := Rw4.cell 21 rfl; have u4 : Up w w4 := (by (repeat' (first | (with_reducible first | exact Up.refl _ | assumption | refine Up.alloc ?_ _ | refine Up.drew ?_ | refine Up.drewN ?_ _ | refine Up.setCell ?_ ?_ _ | refine Up.call ?_ (by assumption)) | go_size)))))
            | (go_at_call 23; ((with_reducible refine (Path.soundPath_calls (.slice pa pl pc) l _ (HL.out.up (by (repeat' (first | (with_reducible first | exact Up.refl _ | assumption | refine Up.alloc ?_ _ | refine Up.drew ?_ | refine Up.drewN ?_ _ | refine Up.setCell ?_ ?_ _ | refine Up.call ?_ (by assumption)) | go_size)))).pv).mono ?_); rw [HSO.out]; rintro E w5 ⟨rfl, hu5⟩; have z5 := hu5.size; have Rw5 : Row w5 w.heap.size #[.int .i64 k, .slice pa pl pc, .int .i64 4, .int .i64 p0, .int .i64 p1, .int .i64 p2, .int .i64 p3, .slice ca cl cc, .int .i64 wd, .int .i64 cp, .int .i64 jn, .int .i64 mt, .slice da dl dc, .int .i64 ph, .int .i64 fn, .int .i64 m.a, .int .i64 m.b, .int .i64 m.c, .int .i64 m.d, .int .i64 m.x, .int .i64 m.y, .slice ba bl bc] := Row.up (show Row _ w.heap.size #[.int .i64 k, .slice pa pl pc, .int .i64 4, .int .i64 p0, .int .i64 p1, .int .i64 p2, .int .i64 p3, .slice ca cl cc, .int .i64 wd, .int .i64 cp, .int .i64 jn, .int .i64 mt, .slice da dl dc, .int .i64 ph, .int .i64 fn, .int .i64 m.a, .int .i64 m.b, .int .i64 m.c, .int .i64 m.d, .int .i64 m.x, .int .i64 m.y, .slice ba bl bc] by (repeat' (with_reducible first | assumption | (refine Row.at _ _ ?_; (simp; done)) | refine Row.alloc ?_ _ | refine Row.drew ?_ | refine Row.drewN ?_ _ | refine Row.other ?_ (by first | (simp; done) | (simp; omega) | omega) _ | refine Row.up ?_ (by assumption) | refine Row.chg ?_ (by assumption) (by first | (simp; done) | (simp; omega))))) hu5; have lw5 := Rw5.lt; have qw5_0 : w5.cell? ⟨w.heap.size, 0, none⟩ = some (.int .i64 k) := Rw5.cell 0 rfl; have qw5_1 : w5.cell? ⟨w.heap.size, 1, none⟩ = some (.slice pa pl pc) := Rw5.cell 1 rfl; have qw5_7 : w5.cell? ⟨w.heap.size, 7, none⟩ = some (.slice ca cl cc) := Rw5.cell 7 rfl; have qw5_8 : w5.cell? ⟨w.heap.size, 8, none⟩ = some (.int .i64 wd) := Rw5.cell 8 rfl; have qw5_9 : w5.cell? ⟨w.heap.size, 9, none⟩ = some (.int .i64 cp) := Rw5.cell 9 rfl; have qw5_10 : w5.cell? ⟨w.heap.size, 10, none⟩ = some (.int .i64 jn) := Rw5.cell 10 rfl; have qw5_11 : w5.cell? ⟨w.heap.size, 11, none⟩ = some (.int .i64 mt) := Rw5.cell 11 rfl; have qw5_12 : w5.cell? ⟨w.heap.size, 12, none⟩ = some (.slice da dl dc) := Rw5.cell 12 rfl; have qw5_13 : w5.cell? ⟨w.heap.size, 13, none⟩ = some (.int .i64 ph) := Rw5.cell 13 rfl; have qw5_14 : w5.cell? ⟨w.heap.size, 14, none⟩ = some (.int .i64 fn) := Rw5.cell 14 rfl; have qw5_15 : w5.cell? ⟨w.heap.size, 15, none⟩ = some (.int .i64 m.a) := Rw5.cell 15 rfl; have qw5_16 : w5.cell? ⟨w.heap.size, 16, none⟩ = some (.int .i64 m.b) := Rw5.cell 16 rfl; have qw5_17 : w5.cell? ⟨w.heap.size, 17, none⟩ = some (.int .i64 m.c) := Rw5.cell 17 rfl; have qw5_18 : w5.cell? ⟨w.heap.size, 18, none⟩ = some (.int .i64 m.d) := Rw5.cell 18 rfl; have qw5_19 : w5.cell? ⟨w.heap.size, 19, none⟩ = some (.int .i64 m.x) := Rw5.cell 19 rfl; have qw5_20 : w5.cell? ⟨w.heap.size, 20, none⟩ = some (.int .i64 m.y) := Rw5.cell 20 rfl; have qw5_21 : w5.cell? ⟨w.heap.size, 21, none⟩ = some (.slice ba bl bc) := Rw5.cell 21 rfl)))
          go_ret
          exact ⟨by rw [H.out]; rfl, by (repeat' (first | (with_reducible first | exact Up.refl _ | assumption | refine Up.alloc ?_ _ | refine Up.drew ?_ | refine Up.drewN ?_ _ | refine Up.setCell ?_ ?_ _ | refine Up.call ?_ (by assumption)) | go_size))⟩
        by_cases h7 : k = 3
        · subst h7
          have H := Lib.hid (show (itemB true true tL tN tP true true 3 fn pl bl) = tP by simp only [itemB, h2, h3, h4] <;> simp)
          go_wp2_with (first
            | (go_at_call 24; ((with_reducible refine (samePen_calls wd cp jn mt ph da dl dc _).mono ?_); rw [HNO.out]; rintro E w4 ⟨rfl, hu4⟩; have z4 := hu4.size; (try simp at z4); have Rw4 : Row w4 w.heap.size #[.int .i64 3, .slice pa pl pc, .int .i64 4, .int .i64 p0, .int .i64 p1, .int .i64 p2, .int .i64 p3, .slice ca cl cc, .int .i64 wd, .int .i64 cp, .int .i64 jn, .int .i64 mt, .slice da dl dc, .int .i64 ph, .int .i64 fn, .int .i64 m.a, .int .i64 m.b, .int .i64 m.c, .int .i64 m.d, .int .i64 m.x, .int .i64 m.y, .slice ba bl bc] := Row.up (show Row _ w.heap.size #[.int .i64 3, .slice pa pl pc, .int .i64 4, .int .i64 p0, .int .i64 p1, .int .i64 p2, .int .i64 p3, .slice ca cl cc, .int .i64 wd, .int .i64 cp, .int .i64 jn, .int .i64 mt, .slice da dl dc, .int .i64 ph, .int .i64 fn, .int .i64 m.a, .int .i64 m.b, .int .i64 m.c, .int .i64 m.d, .int .i64 m.x, .int .i64 m.y, .slice ba bl bc] by (repeat' (with_reducible first | assumption | (refine Row.at _ _ ?_; (simp; done)) | refine Row.alloc ?_ _ | refine Row.drew ?_ | refine Row.drewN ?_ _ | refine Row.other ?_ (by first | (simp; done) | (simp; omega) | omega) _ | refine Row.up ?_ (by assumption) | refine Row.chg ?_ (by assumption) (by first | (simp; done) | (simp; omega))))) hu4; have lw4 := Rw4.lt; have qw4_0 : w4.cell? ⟨w.heap.size, 0, none⟩ = some (.int .i64 3) := Rw4.cell 0 rfl; have qw4_1 : w4.cell? ⟨w.heap.size, 1, none⟩ = some (.slice pa pl pc) := Rw4.cell 1 rfl; have qw4_7 : w4.cell? ⟨w.heap.size, 7, none⟩ = some (.slice ca cl cc) := Rw4.cell 7 rfl; have qw4_8 : w4.cell? ⟨w.heap.size, 8, none⟩ = some (.int .i64 wd) := Rw4.cell 8 rfl; have qw4_9 : w4.cell? ⟨w.heap.size, 9, none⟩ = some (.int .i64 cp) := Rw4.cell 9 rfl; have qw4_10 : w4.cell? ⟨w.heap.size, 10, none⟩ = some (.int .i64 jn) := Rw4.cell 10 rfl; have qw4_11 : w4.cell? ⟨w.heap.size, 11, none⟩ = some (.int .i64 mt) := Rw4.cell 11 rfl; have qw4_12 : w4.cell? ⟨w.heap.size, 12, none⟩ = some (.slice da dl dc) := Rw4.cell 12 rfl; have qw4_13 : w4.cell? ⟨w.heap.size, 13, none⟩ = some (.int .i64 ph) := Rw4.cell 13 rfl; have qw4_14 : w4.cell? ⟨w.heap.size, 14, none⟩ = some (.int .i64 fn) := Rw4.cell 14 rfl; have qw4_15 : w4.cell? ⟨w.heap.size, 15, none⟩ = some (.int .i64 m.a) := Rw4.cell 15 rfl; have qw4_16 : w4.cell? ⟨w.heap.size, 16, none⟩ = some (.int .i64 m.b) := Rw4.cell 16 rfl; have qw4_17 : w4.cell? ⟨w.heap.size, 17, none⟩ = some (.int .i64 m.c) := Rw4.cell 17 rfl; have qw4_18 : w4.cell? ⟨w.heap.size, 18, none⟩ = some (.int .i64 m.d) := Rw4.cell 18 rfl; have qw4_19 : w4.cell? ⟨w.heap.size, 19, none⟩ = some (.int .i64 m.x) := Rw4.cell 19 rfl; have qw4_20 : w4.cell? ⟨w.heap.size, 20, none⟩ = some (.int .i64 m.y) := Rw4.cell 20 rfl; have qw4_21 : w4.cell? ⟨w.heap.size, 21, none⟩ = some (.slice ba bl bc) := Rw4.cell 21 rfl; have u4 : Up w w4 := (by (repeat' (first | (with_reducible first | exact Up.refl _ | assumption | refine Up.alloc ?_ _ | refine Up.drew ?_ | refine Up.drewN ?_ _ | refine Up.setCell ?_ ?_ _ | refine Up.call ?_ (by assumption)) | go_size)))))
            | (go_at_call 23; ((with_reducible refine (Path.soundPath_calls (.slice pa pl pc) l _ (HL.out.up (by (repeat' (first | (with_reducible first | exact Up.refl _ | assumption | refine Up.alloc ?_ _ | refine Up.drew ?_ | refine Up.drewN ?_ _ | refine Up.setCell ?_ ?_ _ | refine Up.call ?_ (by assumption)) | go_size)))).pv).mono ?_); rw [HSO.out]; rintro E w5 ⟨rfl, hu5⟩; have z5 := hu5.size; have Rw5 : Row w5 w.heap.size #[.int .i64 3, .slice pa pl pc, .int .i64 4, .int .i64 p0, .int .i64 p1, .int .i64 p2, .int .i64 p3, .slice ca cl cc, .int .i64 wd, .int .i64 cp, .int .i64 jn, .int .i64 mt, .slice da dl dc, .int .i64 ph, .int .i64 fn, .int .i64 m.a, .int .i64 m.b, .int .i64 m.c, .int .i64 m.d, .int .i64 m.x, .int .i64 m.y, .slice ba bl bc] := Row.up (show Row _ w.heap.size #[.int .i64 3, .slice pa pl pc, .int .i64 4, .int .i64 p0, .int .i64 p1, .int .i64 p2, .int .i64 p3, .slice ca cl cc, .int .i64 wd, .int .i64 cp, .int .i64 jn, .int .i64 mt, .slice da dl dc, .int .i64 ph, .int .i64 fn, .int .i64 m.a, .int .i64 m.b, .int .i64 m.c, .int .i64 m.d, .int .i64 m.x, .int .i64 m.y, .slice ba bl bc] by (repeat' (with_reducible first | assumption | (refine Row.at _ _ ?_; (simp; done)) | refine Row.alloc ?_ _ | refine Row.drew ?_ | refine Row.drewN ?_ _ | refine Row.other ?_ (by first | (simp; done) | (simp; omega) | omega) _ | refine Row.up ?_ (by assumption) | refine Row.chg ?_ (by assumption) (by first | (simp; done) | (simp; omega))))) hu5; have lw5 := Rw5.lt; have qw5_0 : w5.cell? ⟨w.heap.size, 0, none⟩ = some (.int .i64 3) := Rw5.cell 0 rfl; have qw5_1 : w5.cell? ⟨w.heap.size, 1, none⟩ = some (.slice pa pl pc) := Rw5.cell 1 rfl; have qw5_7 : w5.cell? ⟨w.heap.size, 7, none⟩ = some (.slice ca cl cc) := Rw5.cell 7 rfl; have qw5_8 : w5.cell? ⟨w.heap.size, 8, none⟩ = some (.int .i64 wd) := Rw5.cell 8 rfl; have qw5_9 : w5.cell? ⟨w.heap.size, 9, none⟩ = some (.int .i64 cp) := Rw5.cell 9 rfl; have qw5_10 : w5.cell? ⟨w.heap.size, 10, none⟩ = some (.int .i64 jn) := Rw5.cell 10 rfl; have qw5_11 : w5.cell? ⟨w.heap.size, 11, none⟩ = some (.int .i64 mt) := Rw5.cell 11 rfl; have qw5_12 : w5.cell? ⟨w.heap.size, 12, none⟩ = some (.slice da dl dc) := Rw5.cell 12 rfl; have qw5_13 : w5.cell? ⟨w.heap.size, 13, none⟩ = some (.int .i64 ph) := Rw5.cell 13 rfl; have qw5_14 : w5.cell? ⟨w.heap.size, 14, none⟩ = some (.int .i64 fn) := Rw5.cell 14 rfl; have qw5_15 : w5.cell? ⟨w.heap.size, 15, none⟩ = some (.int .i64 m.a) := Rw5.cell 15 rfl; have qw5_16 : w5.cell? ⟨w.heap.size, 16, none⟩ = some (.int .i64 m.b) := Rw5.cell 16 rfl; have qw5_17 : w5.cell? ⟨w.heap.size, 17, none⟩ = some (.int .i64 m.c) := Rw5.cell 17 rfl; have qw5_18 : w5.cell? ⟨w.heap.size, 18, none⟩ = some (.int .i64 m.d) := Rw5.cell 18 rfl; have qw5_19 : w5.cell? ⟨w.heap.size, 19, none⟩ = some (.int .i64 m.x) := Rw5.cell 19 rfl; have qw5_20 : w5.cell? ⟨w.heap.size, 20, none⟩ = some (.int .i64 m.y) := Rw5.cell 20 rfl; have qw5_21 : w5.cell? ⟨w.heap.size, 21, none⟩ = some (.slice ba bl bc) := Rw5.cell 21 rfl))
            | (go_at_call 26; ((with_reducible refine (soundPen_calls wd cp jn mt ph da dl dc ds _ HL.out.dn (HL.out.up (by (repeat' (first | (with_reducible first | exact Up.refl _ | assumption | refine Up.alloc ?_ _ | refine Up.drew ?_ | refine Up.drewN ?_ _ | refine Up.setCell ?_ ?_ _ | refine Up.call ?_ (by assumption)) | go_size)))).dv).mono ?_); rw [HPN.out]; rintro E w6 ⟨rfl, hu6⟩)))
          go_ret
          exact ⟨by rw [H.out]; rfl, by (repeat' (first | (with_reducible first | exact Up.refl _ | assumption | refine Up.alloc ?_ _ | refine Up.drew ?_ | refine Up.drewN ?_ _ | refine Up.setCell ?_ ?_ _ | refine Up.call ?_ (by assumption)) | go_size))⟩
        have e3 : (k == 3) = false := by simpa using h7
        have h12 : k = 1 ∨ k = 2 := by have a1 : ¬ k < 1 := (by simpa using k1); have a2 : ¬ 3 < k := (by simpa using k3); omega
        have H := Lib.hid (show (itemB true true tL tN tP true true k fn pl bl) = tN by simp only [itemB, hk, h12, h2, h3, h4] <;> simp)
        go_wp2_with (first
          | (go_at_call 24; ((with_reducible refine (samePen_calls wd cp jn mt ph da dl dc _).mono ?_); rw [HNO.out]; rintro E w4 ⟨rfl, hu4⟩; have z4 := hu4.size; (try simp at z4); have Rw4 : Row w4 w.heap.size #[.int .i64 k, .slice pa pl pc, .int .i64 4, .int .i64 p0, .int .i64 p1, .int .i64 p2, .int .i64 p3, .slice ca cl cc, .int .i64 wd, .int .i64 cp, .int .i64 jn, .int .i64 mt, .slice da dl dc, .int .i64 ph, .int .i64 fn, .int .i64 m.a, .int .i64 m.b, .int .i64 m.c, .int .i64 m.d, .int .i64 m.x, .int .i64 m.y, .slice ba bl bc] := Row.up (show Row _ w.heap.size #[.int .i64 k, .slice pa pl pc, .int .i64 4, .int .i64 p0, .int .i64 p1, .int .i64 p2, .int .i64 p3, .slice ca cl cc, .int .i64 wd, .int .i64 cp, .int .i64 jn, .int .i64 mt, .slice da dl dc, .int .i64 ph, .int .i64 fn, .int .i64 m.a, .int .i64 m.b, .int .i64 m.c, .int .i64 m.d, .int .i64 m.x, .int .i64 m.y, .slice ba bl bc] by (repeat' (with_reducible first | assumption | (refine Row.at _ _ ?_; (simp; done)) | refine Row.alloc ?_ _ | refine Row.drew ?_ | refine Row.drewN ?_ _ | refine Row.other ?_ (by first | (simp; done) | (simp; omega) | omega) _ | refine Row.up ?_ (by assumption) | refine Row.chg ?_ (by assumption) (by first | (simp; done) | (simp; omega))))) hu4; have lw4 := Rw4.lt; have qw4_0 : w4.cell? ⟨w.heap.size, 0, none⟩ = some (.int .i64 k) := Rw4.cell 0 rfl; have qw4_1 : w4.cell? ⟨w.heap.size, 1, none⟩ = some (.slice pa pl pc) := Rw4.cell 1 rfl; have qw4_7 : w4.cell? ⟨w.heap.size, 7, none⟩ = some (.slice ca cl cc) := Rw4.cell 7 rfl; have qw4_8 : w4.cell? ⟨w.heap.size, 8, none⟩ = some (.int .i64 wd) := Rw4.cell 8 rfl; have qw4_9 : w4.cell? ⟨w.heap.size, 9, none⟩ = some (.int .i64 cp) := Rw4.cell 9 rfl; have qw4_10 : w4.cell? ⟨w.heap.size, 10, none⟩ = some (.int .i64 jn) := Rw4.cell 10 rfl; have qw4_11 : w4.cell? ⟨w.heap.size, 11, none⟩ = some (.int .i64 mt) := Rw4.cell 11 rfl; have qw4_12 : w4.cell? ⟨w.heap.size, 12, none⟩ = some (.slice da dl dc) := Rw4.cell 12 rfl; have qw4_13 : w4.cell? ⟨w.heap.size, 13, none⟩ = some (.int .i64 ph) := Rw4.cell 13 rfl; have qw4_14 : w4.cell? ⟨w.heap.size, 14, none⟩ = some (.int .i64 fn) := Rw4.cell 14 rfl; have qw4_15 : w4.cell? ⟨w.heap.size, 15, none⟩ = some (.int .i64 m.a) := Rw4.cell 15 rfl; have qw4_16 : w4.cell? ⟨w.heap.size, 16, none⟩ = some (.int .i64 m.b) := Rw4.cell 16 rfl; have qw4_17 : w4.cell? ⟨w.heap.size, 17, none⟩ = some (.int .i64 m.c) := Rw4.cell 17 rfl; have qw4_18 : w4.cell? ⟨w.heap.size, 18, none⟩ = some (.int .i64 m.d) := Rw4.cell 18 rfl; have qw4_19 : w4.cell? ⟨w.heap.size, 19, none⟩ = some (.int .i64 m.x) := Rw4.cell 19 rfl; have qw4_20 : w4.cell? ⟨w.heap.size, 20, none⟩ = some (.int .i64 m.y) := Rw4.cell 20 rfl; have qw4_21 : w4.cell? ⟨w.heap.size, 21, none⟩ = some (.slice ba bl bc) := Rw4.cell 21 rfl; have u4 : Up w w4 := (by (repeat' (first | (with_reducible first | exact Up.refl _ | assumption | refine Up.alloc ?_ _ | refine Up.drew ?_ | refine Up.drewN ?_ _ | refine Up.setCell ?_ ?_ _ | refine Up.call ?_ (by assumption)) | go_size)))))
          | (go_at_call 23; ((with_reducible refine (Path.soundPath_calls (.slice pa pl pc) l _ (HL.out.up (by (repeat' (first | (with_reducible first | exact Up.refl _ | assumption | refine Up.alloc ?_ _ | refine Up.drew ?_ | refine Up.drewN ?_ _ | refine Up.setCell ?_ ?_ _ | refine Up.call ?_ (by assumption)) | go_size)))).pv).mono ?_); rw [HSO.out]; rintro E w5 ⟨rfl, hu5⟩; have z5 := hu5.size; have Rw5 : Row w5 w.heap.size #[.int .i64 k, .slice pa pl pc, .int .i64 4, .int .i64 p0, .int .i64 p1, .int .i64 p2, .int .i64 p3, .slice ca cl cc, .int .i64 wd, .int .i64 cp, .int .i64 jn, .int .i64 mt, .slice da dl dc, .int .i64 ph, .int .i64 fn, .int .i64 m.a, .int .i64 m.b, .int .i64 m.c, .int .i64 m.d, .int .i64 m.x, .int .i64 m.y, .slice ba bl bc] := Row.up (show Row _ w.heap.size #[.int .i64 k, .slice pa pl pc, .int .i64 4, .int .i64 p0, .int .i64 p1, .int .i64 p2, .int .i64 p3, .slice ca cl cc, .int .i64 wd, .int .i64 cp, .int .i64 jn, .int .i64 mt, .slice da dl dc, .int .i64 ph, .int .i64 fn, .int .i64 m.a, .int .i64 m.b, .int .i64 m.c, .int .i64 m.d, .int .i64 m.x, .int .i64 m.y, .slice ba bl bc] by (repeat' (with_reducible first | assumption | (refine Row.at _ _ ?_; (simp; done)) | refine Row.alloc ?_ _ | refine Row.drew ?_ | refine Row.drewN ?_ _ | refine Row.other ?_ (by first | (simp; done) | (simp; omega) | omega) _ | refine Row.up ?_ (by assumption) | refine Row.chg ?_ (by assumption) (by first | (simp; done) | (simp; omega))))) hu5; have lw5 := Rw5.lt; have qw5_0 : w5.cell? ⟨w.heap.size, 0, none⟩ = some (.int .i64 k) := Rw5.cell 0 rfl; have qw5_1 : w5.cell? ⟨w.heap.size, 1, none⟩ = some (.slice pa pl pc) := Rw5.cell 1 rfl; have qw5_7 : w5.cell? ⟨w.heap.size, 7, none⟩ = some (.slice ca cl cc) := Rw5.cell 7 rfl; have qw5_8 : w5.cell? ⟨w.heap.size, 8, none⟩ = some (.int .i64 wd) := Rw5.cell 8 rfl; have qw5_9 : w5.cell? ⟨w.heap.size, 9, none⟩ = some (.int .i64 cp) := Rw5.cell 9 rfl; have qw5_10 : w5.cell? ⟨w.heap.size, 10, none⟩ = some (.int .i64 jn) := Rw5.cell 10 rfl; have qw5_11 : w5.cell? ⟨w.heap.size, 11, none⟩ = some (.int .i64 mt) := Rw5.cell 11 rfl; have qw5_12 : w5.cell? ⟨w.heap.size, 12, none⟩ = some (.slice da dl dc) := Rw5.cell 12 rfl; have qw5_13 : w5.cell? ⟨w.heap.size, 13, none⟩ = some (.int .i64 ph) := Rw5.cell 13 rfl; have qw5_14 : w5.cell? ⟨w.heap.size, 14, none⟩ = some (.int .i64 fn) := Rw5.cell 14 rfl; have qw5_15 : w5.cell? ⟨w.heap.size, 15, none⟩ = some (.int .i64 m.a) := Rw5.cell 15 rfl; have qw5_16 : w5.cell? ⟨w.heap.size, 16, none⟩ = some (.int .i64 m.b) := Rw5.cell 16 rfl; have qw5_17 : w5.cell? ⟨w.heap.size, 17, none⟩ = some (.int .i64 m.c) := Rw5.cell 17 rfl; have qw5_18 : w5.cell? ⟨w.heap.size, 18, none⟩ = some (.int .i64 m.d) := Rw5.cell 18 rfl; have qw5_19 : w5.cell? ⟨w.heap.size, 19, none⟩ = some (.int .i64 m.x) := Rw5.cell 19 rfl; have qw5_20 : w5.cell? ⟨w.heap.size, 20, none⟩ = some (.int .i64 m.y) := Rw5.cell 20 rfl; have qw5_21 : w5.cell? ⟨w.heap.size, 21, none⟩ = some (.slice ba bl bc) := Rw5.cell 21 rfl)))
        go_ret
        exact ⟨by rw [H.out]; rfl, by (repeat' (first | (with_reducible first | exact Up.refl _ | assumption | refine Up.alloc ?_ _ | refine Up.drew ?_ | refine Up.drewN ?_ _ | refine Up.setCell ?_ ?_ _ | refine Up.call ?_ (by assumption)) | go_size))⟩

set_option maxRecDepth 8000 in
theorem soundItem_calls (k : Int) (pa : Option Addr) (pl pc : Nat) (sp p0 p1 p2 p3 : Int) (ca : Option Addr) (cl cc : Nat) (wd cp jn mt : Int) (da : Option Addr) (dl dc : Nat) (ph fn : Int) (m : M6) (ba : Option Addr) (bl bc : Nat) (l : List Seg) (cs : List Clip) (ds bs : List Int) (tC tK tL tN tP tS tM : Bool) (w : World) (hL : Lists w pa pl pc ca cl cc da dl dc ba bl bc l cs ds bs)
    (hC : colorR sp p0 p1 p2 p3 = tC) (hK : clipsR cs = tK) (hLT : lettersR fn m bl = tL) (hNO : noneR wd cp jn mt dl ph = tN) (hPN : penR wd cp jn mt ds ph = tP) (hSO : sound l = tS) (hM : m0 m = tM) :
    Calls Tryd.prog 10 #[.agg #[.int .i64 k, .slice pa pl pc, .int .i64 sp, .int .i64 p0, .int .i64 p1, .int .i64 p2, .int .i64 p3, .slice ca cl cc, .int .i64 wd, .int .i64 cp, .int .i64 jn, .int .i64 mt, .slice da dl dc, .int .i64 ph, .int .i64 fn, .int .i64 m.a, .int .i64 m.b, .int .i64 m.c, .int .i64 m.d, .int .i64 m.x, .int .i64 m.y, .slice ba bl bc]] w fun E w' => E = .returned (.bool (itemB tC tK tL tN tP tS tM k fn pl bl)) ∧ Up w w' := by
  by_cases hs : spaceOk sp = true
  · have hsp : sp = 1 ∨ sp = 3 ∨ sp = 4 := by simpa [spaceOk, or_assoc] using hs
    rcases hsp with rfl | rfl | rfl
    · exact soundItem_1 k pa pl pc p0 p1 p2 p3 ca cl cc wd cp jn mt da dl dc ph fn m ba bl bc l cs ds bs tC tK tL tN tP tS tM w hL hC hK hLT hNO hPN hSO hM
    · exact soundItem_3 k pa pl pc p0 p1 p2 p3 ca cl cc wd cp jn mt da dl dc ph fn m ba bl bc l cs ds bs tC tK tL tN tP tS tM w hL hC hK hLT hNO hPN hSO hM
    · exact soundItem_4 k pa pl pc p0 p1 p2 p3 ca cl cc wd cp jn mt da dl dc ph fn m ba bl bc l cs ds bs tC tK tL tN tP tS tM w hL hC hK hLT hNO hPN hSO hM
  have hs : spaceOk sp = false := by simpa using hs
  have H := Lib.hid (show (itemB tC tK tL tN tP tS tM k fn pl bl) = false by have hc : tC = false := (by rw [← hC]; unfold colorR; rw [hs]; rfl); rw [hc]; simp [itemB])
  unfold spaceOk at hs
  simp only [Bool.or_eq_false_iff] at hs
  obtain ⟨⟨d1, d2⟩, d3⟩ := hs
  have e1 : (sp != 1) = true := by simp [bne, d1]
  have e2 : (sp != 3) = true := by simp [bne, d2]
  have e3 : (sp != 4) = true := by simp [bne, d3]
  clear d1 d2 d3 hL hC hK hLT hNO hPN hSO hM
  go_enter Tryd.func10, Tryd.ntmps10
  go_wp2
  go_ret
  exact ⟨by rw [H.out]; rfl, by (repeat' (first | (with_reducible first | exact Up.refl _ | assumption | refine Up.alloc ?_ _ | refine Up.drew ?_ | refine Up.drewN ?_ _ | refine Up.setCell ?_ ?_ _ | refine Up.call ?_ (by assumption)) | go_size))⟩

end Go.Proofs.YteddlahklilncaaDoor.Pt
