/- The reference's Far; law 16's agree of an empty canvas. No condition. -/
import Derived.Test.YtjdbefpfjhdmoaaDoorShB
import Derived.Test.YtjdbefpfjhdmoaaDoorShD
import Derived.Test.YtjdbefpfjhdmoaaDoorPathS
import Derived.Deep.RegionHeld3
namespace Go.Proofs.YtjdbefpfjhdmoaaDoor.Sh
open Go.ChangeShapes Go.WideShapes Go.ChangeAt Go.RowKit
open Go.Proofs.YtjdbefpfjhdmoaaDoor.Gs
open Go.Proofs.YtjdbefpfjhdmoaaDoor.FixM (fits rnd rndp)
open Go.Proofs.YtjdbefpfjhdmoaaDoor.MatM (M6 delta)
open Go.Proofs.YtjdbefpfjhdmoaaDoor.FontM Go.Proofs.YtjdbefpfjhdmoaaDoor.Font
open Go.Proofs.YtjdbefpfjhdmoaaDoor.PathM
set_option linter.unusedVariables false
set_option linter.unusedSimpArgs false

theorem rnd_thou {N : Int} (h : 0 ≤ N) : rnd N 1000 = thou N := by
  unfold rnd rndp thou
  rw [if_neg (by decide), Int.tdiv_eq_ediv_of_nonneg h, Int.tmod_eq_emod_of_nonneg h]
  by_cases h1 : 1000 ≤ 2 * (N % 1000)
  · rw [if_pos h1, if_pos h1]
  · rw [if_neg h1, if_neg h1, if_neg (by omega)]

set_option maxRecDepth 8000 in
set_option maxHeartbeats 2000000 in
theorem rfar_calls (b : Nat) (C : M6) (F : Int) (FM : M6) (dk : Bool) (n : Int) (vl v : Value) (zs : List Int) (w : World) (h : Row w b (rsC C F FM dk n vl)) (hv : Ints .u8 w v zs) (hl : zs.length ≤ 100000) :
    Calls Tryd.prog 9 #[.pointer (some ⟨b, 0, none⟩), v] w fun E w' => E = ptE (farR F FM zs) ∧ Up w w' := by
  have HV := Lib.hid hv
  have HR := Lib.hid h
  have hlt := h.lt
  have q17 : w.cell? ⟨b, 17, none⟩ = some (.int .i64 F) := h.cell 17 rfl
  clear hv h
  have hb := sumW_bound F zs
  obtain ⟨X, hX⟩ : ∃ X, sumW F zs = X := ⟨_, rfl⟩
  rw [hX] at hb
  have HX := Lib.hid hX
  obtain ⟨N, hN⟩ : ∃ N, X * 65536 = N := ⟨_, rfl⟩
  have hX0 : 0 ≤ X := hb.1
  have hX1 : X ≤ 200000000 := by omega
  have hN0 : 0 ≤ N := by omega
  have hN1 : N ≤ 13107200000000 := by omega
  have hE : farR F FM zs = (if fits (thou N) then delta FM.a FM.b FM.c FM.d (thou N) 0 else ((0, 0), 18)) := by unfold farR; rw [hX, hN]
  obtain ⟨Q, hQ⟩ : ∃ Q, thou N = Q := ⟨_, rfl⟩
  rw [hQ] at hE
  have HQ := Lib.hid ((rnd_thou hN0).trans hQ)
  obtain ⟨D, hD⟩ : ∃ D, delta FM.a FM.b FM.c FM.d Q 0 = D := ⟨_, rfl⟩
  rw [hD] at hE
  have HD := Lib.hid hD
  have HE := Lib.hid hE
  clear hX hb hE hD hQ
  cases hf : fits Q
  all_goals have HF := Lib.hid hf
  all_goals clear hf
  next =>
    have HE2 := Lib.hid (show farR F FM zs = ((0, 0), 18) by rw [HE.out, HF.out]; rfl)
    go_enter Tryd.func9, Tryd.ntmps9
    go_wp2_with (first
      | (go_at_call 30; ((with_reducible refine (rsum_calls F v zs _ (HV.out.up (by (repeat' (first | (with_reducible exact Up.refl _) | (with_reducible assumption) | (with_reducible refine Up.alloc ?_ _) | (with_reducible refine Up.drew ?_) | (with_reducible refine Up.drewN ?_ _) | (with_reducible refine Up.setCell ?_ ?_ _) | (with_reducible refine Up.call ?_ (by with_reducible assumption)) | go_size)))) hl).mono ?_); rw [HX.out]; rintro E w1 ⟨rfl, hu1⟩; have z1 := hu1.size; (try simp at z1); have RP1 := Row.up (show Row _ w.heap.size #[.int .i64 0, .int .i64 0] by (repeat' (first | (with_reducible assumption) | (with_reducible refine Row.at _ _ ?_; (simp; done)) | (with_reducible refine Row.alloc ?_ _) | (with_reducible refine Row.drew ?_) | (with_reducible refine Row.drewN ?_ _) | (with_reducible refine Row.other ?_ (by first | (simp; done) | (simp; omega) | omega) _) | (with_reducible refine Row.up ?_ (by with_reducible assumption)) | (with_reducible refine Row.chg ?_ (by with_reducible assumption) (by first | (simp; done) | (simp; omega)))))) hu1))
      | (go_at_call 29; ((with_reducible refine (Rfix.rounded_calls N 1000 _ (by decide) (by decide) (by decide) (by omega) (by omega)).mono ?_); rw [HQ.out]; rintro E w2 ⟨rfl, hu2⟩; have z2 := hu2.size; have RP2 := RP1.up hu2; have RS2 : Row w2 b (rsC C F FM dk n vl) := Row.up (Row.up (show Row _ b (rsC C F FM dk n vl) from HR.out.alloc _) hu1) hu2; have lb2 := RS2.lt; have w2m_18 : w2.cell? ⟨b, 18, none⟩ = some (.int .i64 FM.a) := RS2.cell 18 rfl; have w2m_19 : w2.cell? ⟨b, 19, none⟩ = some (.int .i64 FM.b) := RS2.cell 19 rfl; have w2m_20 : w2.cell? ⟨b, 20, none⟩ = some (.int .i64 FM.c) := RS2.cell 20 rfl; have w2m_21 : w2.cell? ⟨b, 21, none⟩ = some (.int .i64 FM.d) := RS2.cell 21 rfl; have w2m_22 : w2.cell? ⟨b, 22, none⟩ = some (.int .i64 FM.x) := RS2.cell 22 rfl; have w2m_23 : w2.cell? ⟨b, 23, none⟩ = some (.int .i64 FM.y) := RS2.cell 23 rfl; have p2_0 : w2.cell? ⟨w.heap.size, 0, none⟩ = some (.int .i64 0) := RP2.cell 0 rfl; have pf2_0 := RP2.free 0; have p2_1 : w2.cell? ⟨w.heap.size, 1, none⟩ = some (.int .i64 0) := RP2.cell 1 rfl; have pf2_1 := RP2.free 1))
      | (go_at_call 31; ((with_reducible refine (Rfix.fits_calls _ _).mono ?_); rw [HF.out]; rintro E w3 ⟨rfl, rfl⟩))
      | (go_at_call 32; ((with_reducible refine (Rmat.delta_calls FM.a FM.b FM.c FM.d FM.x FM.y _ 0 _).mono ?_); rw [HD.out]; rintro E w4 ⟨rfl, hu4⟩; have z4 := hu4.size; have RP4 := RP2.up hu4; have p4_0 : w4.cell? ⟨w.heap.size, 0, none⟩ = some (.int .i64 0) := RP4.cell 0 rfl; have pf4_0 := RP4.free 0; have p4_1 : w4.cell? ⟨w.heap.size, 1, none⟩ = some (.int .i64 0) := RP4.cell 1 rfl; have pf4_1 := RP4.free 1)))
    (try simp only [Exit.inBlock, Exit.then])
    refine bodyPost_ret (results_pt rfl _ _ w.heap.size 0 0 18 (show Row _ w.heap.size #[.int .i64 0, .int .i64 0] from (by apply cast; (case h => (repeat (first | (with_reducible assumption) | (with_reducible apply Row.at; (simp; done)) | (with_reducible apply Row.alloc) | (with_reducible apply Row.drew) | (with_reducible apply Row.drewN) | (with_reducible apply Row.set) | ((with_reducible apply Row.other); (case hp => first | (simp; done) | (simp; omega) | omega))))); (case e => rfl))) rfl rfl) rfl ?_
    exact ⟨by rw [HE2.out], (show Chg [] w _ by (repeat' (first | (with_reducible exact Chg.refl _ _) | (with_reducible assumption) | (with_reducible refine Chg.alloc ?_ _) | (with_reducible refine Chg.drew ?_) | (with_reducible refine Chg.drewN ?_ _) | (with_reducible refine Chg.setCell ?_ ?_ _) | (with_reducible refine Chg.upc ?_ (by with_reducible assumption)) | (with_reducible refine Chg.call ?_ (by with_reducible assumption) ?_) | (refine Or.inl ?_; (simp; done)) | (simp; done) | (simp; omega) | omega))).up⟩
  next =>
    have HE2 := Lib.hid (show farR F FM zs = D by rw [HE.out, HF.out]; rfl)
    go_enter Tryd.func9, Tryd.ntmps9
    go_wp2_with (first
      | (go_at_call 30; ((with_reducible refine (rsum_calls F v zs _ (HV.out.up (by (repeat' (first | (with_reducible exact Up.refl _) | (with_reducible assumption) | (with_reducible refine Up.alloc ?_ _) | (with_reducible refine Up.drew ?_) | (with_reducible refine Up.drewN ?_ _) | (with_reducible refine Up.setCell ?_ ?_ _) | (with_reducible refine Up.call ?_ (by with_reducible assumption)) | go_size)))) hl).mono ?_); rw [HX.out]; rintro E w1 ⟨rfl, hu1⟩; have z1 := hu1.size; (try simp at z1); have RP1 := Row.up (show Row _ w.heap.size #[.int .i64 0, .int .i64 0] by (repeat' (first | (with_reducible assumption) | (with_reducible refine Row.at _ _ ?_; (simp; done)) | (with_reducible refine Row.alloc ?_ _) | (with_reducible refine Row.drew ?_) | (with_reducible refine Row.drewN ?_ _) | (with_reducible refine Row.other ?_ (by first | (simp; done) | (simp; omega) | omega) _) | (with_reducible refine Row.up ?_ (by with_reducible assumption)) | (with_reducible refine Row.chg ?_ (by with_reducible assumption) (by first | (simp; done) | (simp; omega)))))) hu1))
      | (go_at_call 29; ((with_reducible refine (Rfix.rounded_calls N 1000 _ (by decide) (by decide) (by decide) (by omega) (by omega)).mono ?_); rw [HQ.out]; rintro E w2 ⟨rfl, hu2⟩; have z2 := hu2.size; have RP2 := RP1.up hu2; have RS2 : Row w2 b (rsC C F FM dk n vl) := Row.up (Row.up (show Row _ b (rsC C F FM dk n vl) from HR.out.alloc _) hu1) hu2; have lb2 := RS2.lt; have w2m_18 : w2.cell? ⟨b, 18, none⟩ = some (.int .i64 FM.a) := RS2.cell 18 rfl; have w2m_19 : w2.cell? ⟨b, 19, none⟩ = some (.int .i64 FM.b) := RS2.cell 19 rfl; have w2m_20 : w2.cell? ⟨b, 20, none⟩ = some (.int .i64 FM.c) := RS2.cell 20 rfl; have w2m_21 : w2.cell? ⟨b, 21, none⟩ = some (.int .i64 FM.d) := RS2.cell 21 rfl; have w2m_22 : w2.cell? ⟨b, 22, none⟩ = some (.int .i64 FM.x) := RS2.cell 22 rfl; have w2m_23 : w2.cell? ⟨b, 23, none⟩ = some (.int .i64 FM.y) := RS2.cell 23 rfl; have p2_0 : w2.cell? ⟨w.heap.size, 0, none⟩ = some (.int .i64 0) := RP2.cell 0 rfl; have pf2_0 := RP2.free 0; have p2_1 : w2.cell? ⟨w.heap.size, 1, none⟩ = some (.int .i64 0) := RP2.cell 1 rfl; have pf2_1 := RP2.free 1))
      | (go_at_call 31; ((with_reducible refine (Rfix.fits_calls _ _).mono ?_); rw [HF.out]; rintro E w3 ⟨rfl, rfl⟩))
      | (go_at_call 32; ((with_reducible refine (Rmat.delta_calls FM.a FM.b FM.c FM.d FM.x FM.y _ 0 _).mono ?_); rw [HD.out]; rintro E w4 ⟨rfl, hu4⟩; have z4 := hu4.size; have RP4 := RP2.up hu4; have p4_0 : w4.cell? ⟨w.heap.size, 0, none⟩ = some (.int .i64 0) := RP4.cell 0 rfl; have pf4_0 := RP4.free 0; have p4_1 : w4.cell? ⟨w.heap.size, 1, none⟩ = some (.int .i64 0) := RP4.cell 1 rfl; have pf4_1 := RP4.free 1)))
    (try simp only [Exit.inBlock, Exit.then])
    refine bodyPost_ret (results_pt rfl _ _ w.heap.size D.1.1 D.1.2 D.2 (show Row _ w.heap.size #[.int .i64 D.1.1, .int .i64 D.1.2] from (by apply cast; (case h => (repeat (first | (with_reducible assumption) | (with_reducible apply Row.at; (simp; done)) | (with_reducible apply Row.alloc) | (with_reducible apply Row.drew) | (with_reducible apply Row.drewN) | (with_reducible apply Row.set) | ((with_reducible apply Row.other); (case hp => first | (simp; done) | (simp; omega) | omega))))); (case e => rfl))) rfl rfl) rfl ?_
    exact ⟨by rw [HE2.out], (show Chg [] w _ by (repeat' (first | (with_reducible exact Chg.refl _ _) | (with_reducible assumption) | (with_reducible refine Chg.alloc ?_ _) | (with_reducible refine Chg.drew ?_) | (with_reducible refine Chg.drewN ?_ _) | (with_reducible refine Chg.setCell ?_ ?_ _) | (with_reducible refine Chg.upc ?_ (by with_reducible assumption)) | (with_reducible refine Chg.call ?_ (by with_reducible assumption) ?_) | (refine Or.inl ?_; (simp; done)) | (simp; done) | (simp; omega) | omega))).up⟩


theorem sameItems_nil (a : Option Addr) (c : Nat) (w : World) : Calls Tryd.prog 13 #[.slice a 0 c, .slice none 0 0] w fun E w' => E = .returned (.bool true) ∧ w = w' := by
  go_enter Tryd.func13, Tryd.ntmps13
  go_wp2
  go_loop [5] (fun s5 => s5 = .int .i64 0) (fun _ => 0)
  case atStart => rfl
  case round =>
    obtain rfl := hrel
    go_wp2
    go_ret
    exact ⟨rfl, rfl⟩
theorem owns_nil (w : World) : Calls Tryd.prog 40 #[.slice none 0 0] w fun E w' => E = .returned (.slice (some ⟨w.heap.size, 0, none⟩) 0 0) ∧ Up w w' := by
  have hmk : ∀ W : World, (Instr.makeSlice 43 (.int .i64 0) (.int .i64 0)).run Tryd.prog W = .ok (.slice (some ⟨W.heap.size, 0, none⟩) 0 0) (W.alloc (.cells #[] 86)) := fun _ => by kernel_rfl
  go_enter Tryd.func40, Tryd.ntmps40
  go_wp2
  go_loop [3, 11] (fun s3 s11 => s3 = .slice (some ⟨w.heap.size, 0, none⟩) 0 0 ∧ s11 = .int .i64 0) (fun _ _ => 0)
  case atStart => exact ⟨rfl, rfl⟩
  case round =>
    obtain ⟨rfl, rfl⟩ := hrel
    go_wp2
    go_ret
    exact ⟨rfl, by (repeat' (first | (with_reducible exact Up.refl _) | (with_reducible assumption) | (with_reducible refine Up.alloc ?_ _) | (with_reducible refine Up.drew ?_) | (with_reducible refine Up.drewN ?_ _) | (with_reducible refine Up.setCell ?_ ?_ _) | (with_reducible refine Up.call ?_ (by with_reducible assumption)) | go_size))⟩
theorem items_nil (c : Nat) (w : World) (h : w.cell? ⟨c, 2, none⟩ = some (.slice none 0 0)) : Calls Tryd.prog 14 #[.pointer (some ⟨c, 0, none⟩)] w fun E w' => E = .returned (.slice (some ⟨w.heap.size, 0, none⟩) 0 0) ∧ Up w w' := by
  go_enter Tryd.func14, Tryd.ntmps14
  go_wp2_with (go_at_call 40; ((with_reducible refine (owns_nil _).mono ?_); rintro E w1 ⟨rfl, hu1⟩))
  go_ret
  exact ⟨rfl, by (repeat' (first | (with_reducible exact Up.refl _) | (with_reducible assumption) | (with_reducible refine Up.alloc ?_ _) | (with_reducible refine Up.drew ?_) | (with_reducible refine Up.drewN ?_ _) | (with_reducible refine Up.setCell ?_ ?_ _) | (with_reducible refine Up.call ?_ (by with_reducible assumption)) | go_size))⟩

set_option maxRecDepth 8000 in
set_option maxHeartbeats 4000000 in
theorem agree_calls (g c p : Nat) (pv : Value) (C : M6) (F : Int) (FM : M6) (dk : Bool) (n : Int) (T : St) (va : Option Addr) (vc : Nat) (w : World) (hg : Row w g (gsC C 65536 (.slice none 0 0) 0 F FM dk p 2 n)) (hp : Path.PathIs w p pv T) (hc : Row w c #[.int .i64 6553600, .int .i64 6553600, .slice none 0 0, .int .i64 2, .slice none 0 0]) (hs : Path.Segs w (.slice va T.l.length vc) T.l) :
    Calls Tryd.prog 10 #[.pointer (some ⟨g, 0, none⟩), .pointer (some ⟨c, 0, none⟩), .agg #[.int .i64 C.a, .int .i64 C.b, .int .i64 C.c, .int .i64 C.d, .int .i64 C.x, .int .i64 C.y, .int .i64 1, .int .i64 0, .int .i64 0, .int .i64 0, .int .i64 0, .int .i64 65536, .int .i64 0, .int .i64 0, .int .i64 655360, .slice none 0 0, .int .i64 0, .int .i64 F, .int .i64 FM.a, .int .i64 FM.b, .int .i64 FM.c, .int .i64 FM.d, .int .i64 FM.x, .int .i64 FM.y, .slice none 0 0, .bool dk, .int .i64 n, .slice va T.l.length vc], .agg #[.int .i64 6553600, .int .i64 6553600, .slice none 0 0, .int .i64 2, .slice none 0 0]] w fun E w' => E = .returned (.bool true) ∧ Up w w' := by
  have HG := Lib.hid hg
  have HP := Lib.hid hp
  have HC := Lib.hid hc
  have HS := Lib.hid hs
  have lg := hg.lt
  have lc := hc.lt
  clear hg hp hc hs
  go_enter Tryd.func10, Tryd.ntmps10
  go_wp2
  go_region_held3 (fun w' => w'.cell? ⟨w.heap.size, 27, none⟩ = some (.slice va T.l.length vc) ∧ w'.cell? ⟨w.heap.size + 1, 2, none⟩ = some (.slice none 0 0)) (first | with_reducible exact ⟨aw3, bw3⟩ | with_reducible exact ⟨aw2, bw2⟩ | with_reducible exact ⟨aw1, bw1⟩ | (constructor <;> simp) | go_keep) (first
    | (go_at_call 16; ((with_reducible refine (path_calls g p _ ((show Row _ g (gsC C 65536 (.slice none 0 0) 0 F FM dk p 2 n) from (by have hg3 := HG.out; (repeat' (first | (with_reducible assumption) | (with_reducible refine Row.at _ _ ?_; (simp; done)) | (with_reducible refine Row.alloc ?_ _) | (with_reducible refine Row.drew ?_) | (with_reducible refine Row.drewN ?_ _) | (with_reducible refine Row.other ?_ (by first | (simp; done) | (simp; omega) | omega) _) | (with_reducible refine Row.up ?_ (by with_reducible assumption)) | (with_reducible refine Row.chg ?_ (by with_reducible assumption) (by first | (simp; done) | (simp; omega))))))).cell 26 rfl)).mono ?_); rintro E w90 ⟨rfl, rfl⟩))
    | (go_at_call 17; ((with_reducible refine (Path.segments_calls p _ T _ (HP.out.up (by (repeat' (first | (with_reducible exact Up.refl _) | (with_reducible assumption) | (with_reducible refine Up.alloc ?_ _) | (with_reducible refine Up.drew ?_) | (with_reducible refine Up.drewN ?_ _) | (with_reducible refine Up.setCell ?_ ?_ _) | (with_reducible refine Up.call ?_ (by with_reducible assumption)) | go_size))))).mono ?_); rintro E w1 ⟨v1, rfl, hs1, hu1, ho1⟩; have z1 := hu1.size; (try simp at z1); have HS1 := Lib.hid hs1; clear hs1 ho1; have Baw1 : Row w1 w.heap.size #[.int .i64 C.a, .int .i64 C.b, .int .i64 C.c, .int .i64 C.d, .int .i64 C.x, .int .i64 C.y, .int .i64 1, .int .i64 0, .int .i64 0, .int .i64 0, .int .i64 0, .int .i64 65536, .int .i64 0, .int .i64 0, .int .i64 655360, .slice none 0 0, .int .i64 0, .int .i64 F, .int .i64 FM.a, .int .i64 FM.b, .int .i64 FM.c, .int .i64 FM.d, .int .i64 FM.x, .int .i64 FM.y, .slice none 0 0, .bool dk, .int .i64 n, .slice va T.l.length vc] := Row.up (show Row _ w.heap.size #[.int .i64 C.a, .int .i64 C.b, .int .i64 C.c, .int .i64 C.d, .int .i64 C.x, .int .i64 C.y, .int .i64 1, .int .i64 0, .int .i64 0, .int .i64 0, .int .i64 0, .int .i64 65536, .int .i64 0, .int .i64 0, .int .i64 655360, .slice none 0 0, .int .i64 0, .int .i64 F, .int .i64 FM.a, .int .i64 FM.b, .int .i64 FM.c, .int .i64 FM.d, .int .i64 FM.x, .int .i64 FM.y, .slice none 0 0, .bool dk, .int .i64 n, .slice va T.l.length vc] by (repeat' (first | (with_reducible assumption) | (with_reducible refine Row.at _ _ ?_; (simp; done)) | (with_reducible refine Row.alloc ?_ _) | (with_reducible refine Row.drew ?_) | (with_reducible refine Row.drewN ?_ _) | (with_reducible refine Row.other ?_ (by first | (simp; done) | (simp; omega) | omega) _) | (with_reducible refine Row.up ?_ (by with_reducible assumption)) | (with_reducible refine Row.chg ?_ (by with_reducible assumption) (by first | (simp; done) | (simp; omega)))))) hu1; have Bbw1 : Row w1 (w.heap.size + 1) #[.int .i64 6553600, .int .i64 6553600, .slice none 0 0, .int .i64 2, .slice none 0 0] := Row.up (show Row _ (w.heap.size + 1) #[.int .i64 6553600, .int .i64 6553600, .slice none 0 0, .int .i64 2, .slice none 0 0] by (repeat' (first | (with_reducible assumption) | (with_reducible refine Row.at _ _ ?_; (simp; done)) | (with_reducible refine Row.alloc ?_ _) | (with_reducible refine Row.drew ?_) | (with_reducible refine Row.drewN ?_ _) | (with_reducible refine Row.other ?_ (by first | (simp; done) | (simp; omega) | omega) _) | (with_reducible refine Row.up ?_ (by with_reducible assumption)) | (with_reducible refine Row.chg ?_ (by with_reducible assumption) (by first | (simp; done) | (simp; omega)))))) hu1; have aw1 : w1.cell? ⟨w.heap.size, 27, none⟩ = some (.slice va T.l.length vc) := Baw1.cell 27 rfl; have bw1 : w1.cell? ⟨w.heap.size + 1, 2, none⟩ = some (.slice none 0 0) := Bbw1.cell 2 rfl; have law1 := Baw1.lt; have lbw1 := Bbw1.lt))
    | (go_at_call 15; ((with_reducible refine (Path.same_calls v1 _ T.l T.l _ HS1.out.v ((HS.out.chg (S := []) (Chg.of_up (by (repeat' (first | (with_reducible exact Up.refl _) | (with_reducible assumption) | (with_reducible refine Up.alloc ?_ _) | (with_reducible refine Up.drew ?_) | (with_reducible refine Up.drewN ?_ _) | (with_reducible refine Up.setCell ?_ ?_ _) | (with_reducible refine Up.call ?_ (by with_reducible assumption)) | go_size)))) (by simp)).v)).mono ?_); rw [decide_eq_true (rfl : T.l = T.l)]; rintro E w2 ⟨rfl, hu2⟩; have z2 := hu2.size; have Baw2 : Row w2 w.heap.size #[.int .i64 C.a, .int .i64 C.b, .int .i64 C.c, .int .i64 C.d, .int .i64 C.x, .int .i64 C.y, .int .i64 1, .int .i64 0, .int .i64 0, .int .i64 0, .int .i64 0, .int .i64 65536, .int .i64 0, .int .i64 0, .int .i64 655360, .slice none 0 0, .int .i64 0, .int .i64 F, .int .i64 FM.a, .int .i64 FM.b, .int .i64 FM.c, .int .i64 FM.d, .int .i64 FM.x, .int .i64 FM.y, .slice none 0 0, .bool dk, .int .i64 n, .slice va T.l.length vc] := Row.up (show Row _ w.heap.size #[.int .i64 C.a, .int .i64 C.b, .int .i64 C.c, .int .i64 C.d, .int .i64 C.x, .int .i64 C.y, .int .i64 1, .int .i64 0, .int .i64 0, .int .i64 0, .int .i64 0, .int .i64 65536, .int .i64 0, .int .i64 0, .int .i64 655360, .slice none 0 0, .int .i64 0, .int .i64 F, .int .i64 FM.a, .int .i64 FM.b, .int .i64 FM.c, .int .i64 FM.d, .int .i64 FM.x, .int .i64 FM.y, .slice none 0 0, .bool dk, .int .i64 n, .slice va T.l.length vc] by (repeat' (first | (with_reducible assumption) | (with_reducible refine Row.at _ _ ?_; (simp; done)) | (with_reducible refine Row.alloc ?_ _) | (with_reducible refine Row.drew ?_) | (with_reducible refine Row.drewN ?_ _) | (with_reducible refine Row.other ?_ (by first | (simp; done) | (simp; omega) | omega) _) | (with_reducible refine Row.up ?_ (by with_reducible assumption)) | (with_reducible refine Row.chg ?_ (by with_reducible assumption) (by first | (simp; done) | (simp; omega)))))) hu2; have Bbw2 : Row w2 (w.heap.size + 1) #[.int .i64 6553600, .int .i64 6553600, .slice none 0 0, .int .i64 2, .slice none 0 0] := Row.up (show Row _ (w.heap.size + 1) #[.int .i64 6553600, .int .i64 6553600, .slice none 0 0, .int .i64 2, .slice none 0 0] by (repeat' (first | (with_reducible assumption) | (with_reducible refine Row.at _ _ ?_; (simp; done)) | (with_reducible refine Row.alloc ?_ _) | (with_reducible refine Row.drew ?_) | (with_reducible refine Row.drewN ?_ _) | (with_reducible refine Row.other ?_ (by first | (simp; done) | (simp; omega) | omega) _) | (with_reducible refine Row.up ?_ (by with_reducible assumption)) | (with_reducible refine Row.chg ?_ (by with_reducible assumption) (by first | (simp; done) | (simp; omega)))))) hu2; have aw2 : w2.cell? ⟨w.heap.size, 27, none⟩ = some (.slice va T.l.length vc) := Baw2.cell 27 rfl; have bw2 : w2.cell? ⟨w.heap.size + 1, 2, none⟩ = some (.slice none 0 0) := Bbw2.cell 2 rfl; have law2 := Baw2.lt; have lbw2 := Bbw2.lt))
    | (go_at_call 14; ((with_reducible refine (items_nil c _ ((show Row _ c #[.int .i64 6553600, .int .i64 6553600, .slice none 0 0, .int .i64 2, .slice none 0 0] from (by have hc3 := HC.out; (repeat' (first | (with_reducible assumption) | (with_reducible refine Row.at _ _ ?_; (simp; done)) | (with_reducible refine Row.alloc ?_ _) | (with_reducible refine Row.drew ?_) | (with_reducible refine Row.drewN ?_ _) | (with_reducible refine Row.other ?_ (by first | (simp; done) | (simp; omega) | omega) _) | (with_reducible refine Row.up ?_ (by with_reducible assumption)) | (with_reducible refine Row.chg ?_ (by with_reducible assumption) (by first | (simp; done) | (simp; omega))))))).cell 2 rfl)).mono ?_); rintro E w3 ⟨rfl, hu3⟩; have z3 := hu3.size; have Baw3 : Row w3 w.heap.size #[.int .i64 C.a, .int .i64 C.b, .int .i64 C.c, .int .i64 C.d, .int .i64 C.x, .int .i64 C.y, .int .i64 1, .int .i64 0, .int .i64 0, .int .i64 0, .int .i64 0, .int .i64 65536, .int .i64 0, .int .i64 0, .int .i64 655360, .slice none 0 0, .int .i64 0, .int .i64 F, .int .i64 FM.a, .int .i64 FM.b, .int .i64 FM.c, .int .i64 FM.d, .int .i64 FM.x, .int .i64 FM.y, .slice none 0 0, .bool dk, .int .i64 n, .slice va T.l.length vc] := Row.up (show Row _ w.heap.size #[.int .i64 C.a, .int .i64 C.b, .int .i64 C.c, .int .i64 C.d, .int .i64 C.x, .int .i64 C.y, .int .i64 1, .int .i64 0, .int .i64 0, .int .i64 0, .int .i64 0, .int .i64 65536, .int .i64 0, .int .i64 0, .int .i64 655360, .slice none 0 0, .int .i64 0, .int .i64 F, .int .i64 FM.a, .int .i64 FM.b, .int .i64 FM.c, .int .i64 FM.d, .int .i64 FM.x, .int .i64 FM.y, .slice none 0 0, .bool dk, .int .i64 n, .slice va T.l.length vc] by (repeat' (first | (with_reducible assumption) | (with_reducible refine Row.at _ _ ?_; (simp; done)) | (with_reducible refine Row.alloc ?_ _) | (with_reducible refine Row.drew ?_) | (with_reducible refine Row.drewN ?_ _) | (with_reducible refine Row.other ?_ (by first | (simp; done) | (simp; omega) | omega) _) | (with_reducible refine Row.up ?_ (by with_reducible assumption)) | (with_reducible refine Row.chg ?_ (by with_reducible assumption) (by first | (simp; done) | (simp; omega)))))) hu3; have Bbw3 : Row w3 (w.heap.size + 1) #[.int .i64 6553600, .int .i64 6553600, .slice none 0 0, .int .i64 2, .slice none 0 0] := Row.up (show Row _ (w.heap.size + 1) #[.int .i64 6553600, .int .i64 6553600, .slice none 0 0, .int .i64 2, .slice none 0 0] by (repeat' (first | (with_reducible assumption) | (with_reducible refine Row.at _ _ ?_; (simp; done)) | (with_reducible refine Row.alloc ?_ _) | (with_reducible refine Row.drew ?_) | (with_reducible refine Row.drewN ?_ _) | (with_reducible refine Row.other ?_ (by first | (simp; done) | (simp; omega) | omega) _) | (with_reducible refine Row.up ?_ (by with_reducible assumption)) | (with_reducible refine Row.chg ?_ (by with_reducible assumption) (by first | (simp; done) | (simp; omega)))))) hu3; have aw3 : w3.cell? ⟨w.heap.size, 27, none⟩ = some (.slice va T.l.length vc) := Baw3.cell 27 rfl; have bw3 : w3.cell? ⟨w.heap.size + 1, 2, none⟩ = some (.slice none 0 0) := Bbw3.cell 2 rfl; have law3 := Baw3.lt; have lbw3 := Bbw3.lt))
    | (go_at_call 13; ((with_reducible refine (sameItems_nil _ _ _).mono ?_); rintro E w4 ⟨rfl, rfl⟩)))
  all_goals go_wp2
  all_goals
    go_ret
    exact ⟨rfl, by (repeat' (first | (with_reducible exact Up.refl _) | (with_reducible assumption) | (with_reducible refine Up.alloc ?_ _) | (with_reducible refine Up.drew ?_) | (with_reducible refine Up.drewN ?_ _) | (with_reducible refine Up.setCell ?_ ?_ _) | (with_reducible refine Up.call ?_ (by with_reducible assumption)) | go_size))⟩

end Go.Proofs.YtjdbefpfjhdmoaaDoor.Sh