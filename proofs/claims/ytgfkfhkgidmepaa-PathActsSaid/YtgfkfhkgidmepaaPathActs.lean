/- PathActs: for every limit and all calls the law returns true. No condition. -/
import Derived.Test.YtgfkfhkgidmepaaPathTwo
import Derived.Test.YtgfkfhkgidmepaaPathS
import Derived.Test.YtgfkfhkgidmepaaPathW9
import Derived.Test.YtgfkfhkgidmepaaLpath
import Derived.Test.YtgfkfhkgidmepaaActArg
namespace Go.Proofs.Ytgfkfhkgidmepaa.pathActs
open Go.ChangeShapes Go.WideShapes Go.ChangeAt Go.RowKit
open Go.Proofs.Ytgfkfhkgidmepaa.PathM Go.Proofs.Ytgfkfhkgidmepaa.Path
set_option linter.unusedVariables false
set_option linter.unusedSimpArgs false

/-- what holds ahead of each round -/
def Rel (w0 : World) (g m : Nat) (most : Int) (n : Nat) (i : Value) (w : World) : Prop :=
  ∃ (k : Nat) (l : List Seg), k ≤ 100 ∧ k ≤ n ∧ i = .int .i64 k ∧ soundFrom 0 l = true ∧ l.length ≤ 2 * k ∧ (∃ v mv, Two w0.heap.size g m most l l v mv w) ∧ Up w0 w
/-- what holds while the answer's cells are cleared -/
def Clr (wb : World) (x n : Nat) (j : Value) (w : World) : Prop :=
  ∃ kk : Nat, kk ≤ n ∧ j = .int .i64 kk ∧ Chg [x] wb w ∧ ∃ cs, Row w x cs ∧ n * 7 ≤ cs.size
theorem segs_row {w : World} {x n cap : Nat} {l : List Seg} (h : Segs w (.slice (some ⟨x, 0, none⟩) n cap) l) (hn : l.length = n) : ∃ cs, Row w x cs ∧ n * 7 ≤ cs.size := by
  rcases h.2 with ⟨h1, _⟩ | ⟨g', cap', cur, hv, _, hg', hn', _, hs, _⟩
  · cases h1
  · injection hv with e1 e2 e3
    injection e1 with e1
    injection e1 with e1
    subst e1 e3
    refine ⟨_, ⟨_, hg'⟩, ?_⟩
    subst hn
    have := Nat.mul_le_mul_right 7 hn'
    omega
theorem hk0_of {l : List Seg} (h : soundFrom 0 l = true) : lastK l = 0 → l = [] := by
  intro h0
  cases hl : l.getLast? with
  | none => exact List.getLast?_eq_none_iff.1 hl
  | some s =>
    have hs : lastK l = s.k := by unfold lastK; rw [hl]
    have := (soundFrom_pts l 0 h s (List.mem_of_getLast? hl)).1
    rw [← hs, h0] at this
    exact absurd this (by decide)
theorem sound_short {l : List Seg} (h : soundFrom 0 l = true) (hl : l.length ≤ 4096) : sound l = true := by
  unfold sound
  rw [h]
  simp [hl]
theorem cur_some {most : Int} {l : List Seg} (h : l ≠ []) : St.cur (stOf most l) = (curOf l, 0) := by
  unfold St.cur
  rw [if_neg (show (stOf most l).l.length ≠ 0 from fun e => h (List.eq_nil_of_length_eq_zero e))]
  rfl
theorem cells_of {w : World} {x : Nat} {cs : Array Value} {kk n : Nat} (h : Row w x cs) (hn : n * 7 ≤ cs.size) (hk : kk < n) (r : Nat) (hr : r < 7) : ∃ u, w.cell? ⟨x, kk * 7 + r, none⟩ = some u :=
  ⟨_, h.cell (kk * 7 + r) (Array.getElem?_eq_getElem (show kk * 7 + r < cs.size by omega))⟩

set_option maxRecDepth 8000 in
set_option maxHeartbeats 4000000 in
theorem walk {w : World} (most : Int) (a : Option Addr) (len cap : Nat) (L : List Seg) (w0 : (Lit.int .i64 most).wf = true) (g0 : SegIs w a len cap L) :
    Calls Try.prog 6 #[.int .i64 most, .slice a len cap] w fun e w' => e = .returned (.bool true) ∧ Up w w' := by
  obtain ⟨-, hcap, hlen, hnil, -, hat⟩ := g0
  subst hlen
  have HAT := Lib.hid hat
  clear hat hnil w0
  go_enter Try.func6, Try.ntmps6
  go_wp2_with (first
    | (go_at_call 20; ((with_reducible refine (new_calls most _).mono ?_); rintro E w1 ⟨rfl, hu1, hp1⟩; have HP1 := Lib.hid hp1; have HU1 := Lib.hid hu1; have hl1 := hp1.row.lt; clear hp1 hu1))
    | (go_at_call 9; ((with_reducible refine (answers_calls _).mono ?_); rintro E w2 ⟨rfl, hu2⟩; have HU2 := Lib.hid (show Up w1 w2 from Up.call (by (repeat' (first | (with_reducible exact Up.refl _) | (with_reducible assumption) | (with_reducible refine Up.alloc ?_ _) | (with_reducible refine Up.drew ?_) | (with_reducible refine Up.drewN ?_ _) | (with_reducible refine Up.setCell ?_ ?_ _) | (with_reducible refine Up.call ?_ (by with_reducible assumption)) | go_size))) hu2); have RM := Lib.hid (show Row w2 w1.heap.size #[.int .i64 most, .slice none 0 0] from Row.up (show Row _ w1.heap.size #[.int .i64 most, .slice none 0 0] by (repeat' (first | (with_reducible assumption) | (with_reducible refine Row.at _ _ ?_; (simp; done)) | (with_reducible refine Row.alloc ?_ _) | (with_reducible refine Row.drew ?_) | (with_reducible refine Row.drewN ?_ _) | (with_reducible refine Row.other ?_ (by first | (simp; done) | (simp; omega) | omega) _) | (with_reducible refine Row.up ?_ (by with_reducible assumption)) | (with_reducible refine Row.chg ?_ (by with_reducible assumption) (by first | (simp; done) | (simp; omega)))))) hu2); clear hu2)))
  have ht0 : Two w.heap.size w.heap.size w1.heap.size most [] [] (.slice none 0 0) (.slice none 0 0) w2 :=
    ⟨HP1.out.up HU2.out, ⟨RM.out, World.ownsRow_nil _ _ _ _, Nat.zero_le _⟩, (by have := HU1.out.size; omega), fun x hx => by (cases hx), fun x hx => by (cases hx), fun x hx => by (cases hx), Nat.le_refl _, HU1.out.size, fun x hx => by (cases hx), fun x hx => by (cases hx)⟩
  obtain ⟨g, hg⟩ : ∃ g, g = w.heap.size := ⟨_, rfl⟩
  obtain ⟨m, hm⟩ : ∃ m, m = w1.heap.size := ⟨_, rfl⟩
  have HT0 := Lib.hid (show Two w.heap.size g m most [] [] (.slice none 0 0) (.slice none 0 0) w2 from by rw [hg, hm]; exact ht0)
  have HUW := Lib.hid (Up.call HU1.out HU2.out)
  rw [← hg, ← hm]
  clear ht0 hg hm HP1 HU1 HU2 RM hl1
  go_loopw [7] (fun i wr => Rel w g m most L.length i wr) (fun i _ => L.length - (intOf i).toNat)
  case atStart => exact ⟨0, [], by omega, Nat.zero_le _, rfl, rfl, by simp, ⟨_, _, HT0.out⟩, HUW.out⟩
  case round =>
    obtain ⟨k, l, hk100, hkn, rfl, hso, hll, ⟨v, mv, ht⟩, hup⟩ := hrel
    have HT := Lib.hid ht
    have HUP := Lib.hid hup
    have HSF := Lib.hid hso
    have HK := Lib.hid (hk0_of hso)
    have hzr := hup.size
    clear hso ht HT0 HUW
    by_cases hlt : k < L.length
    · by_cases h100 : k < 100
      · obtain ⟨b, o, rfl, hb, hat⟩ := HAT.out (by omega)
        obtain ⟨kk, x0, y0, x1, y1, x2, y2, hsg⟩ : ∃ kk x0 y0 x1 y1 x2 y2, L[k]? = some ⟨kk, (x0, y0), (x1, y1), (x2, y2)⟩ := ⟨_, _, _, _, _, _, _, List.getElem?_eq_getElem hlt⟩
        obtain ⟨c0, c1, c2, c3, c4, c5, c6⟩ := SegAt.seven hat k _ _ _ _ _ _ _ hsg
        replace c0 := (hup.cells.1 b _ hb).trans c0
        replace c1 := (hup.cells.1 b _ hb).trans c1
        replace c2 := (hup.cells.1 b _ hb).trans c2
        replace c3 := (hup.cells.1 b _ hb).trans c3
        replace c4 := (hup.cells.1 b _ hb).trans c4
        replace c5 := (hup.cells.1 b _ hb).trans c5
        replace c6 := (hup.cells.1 b _ hb).trans c6
        have hb2 : b < wr.heap.size := Nat.lt_of_lt_of_le hb hzr
        obtain ⟨l', e, hE⟩ : ∃ l' e, lAct most l kk (x0, y0) (x1, y1) (x2, y2) = (l', e) := ⟨_, _, rfl⟩
        have hs' : soundFrom 0 l' = true := by have := sound_lAct (most := most) (c := kk) (p := (x0, y0)) (q := (x1, y1)) (r := (x2, y2)) HSF.out; rwa [hE] at this
        have hl' : l'.length ≤ l.length + 2 := by have := len_lAct most l kk (x0, y0) (x1, y1) (x2, y2); rwa [hE] at this
        have HSO := Lib.hid (show sound l' = true from sound_short hs' (by omega))
        have HS' := Lib.hid hs'
        have HE := Lib.hid hE
        clear hsg hat hs' hE hup
        by_cases hne : l' = []
        · subst hne
          have hq : ∀ w, (Op.equalIn 10000 23 (.agg #[.int .i64 0, .int .i64 0]) (.agg #[.int .i64 0, .int .i64 0])).run Try.prog w = .ok true w := fun w => by rw [run_eqPt 9998]; rfl
          by_cases h6 : kk = 6
          · subst h6
            go_wp2_with (first
            | (go_at_call 15; ((with_reducible refine (copy_calls g v (stOf most l) _ (HT.out.path.up (by (repeat' (first | (with_reducible exact Up.refl _) | (with_reducible assumption) | (with_reducible refine Up.alloc ?_ _) | (with_reducible refine Up.drew ?_) | (with_reducible refine Up.drewN ?_ _) | (with_reducible refine Up.setCell ?_ ?_ _) | (with_reducible refine Up.call ?_ (by with_reducible assumption)) | go_size))))).mono ?_); rintro E w1 ⟨b1, v1, rfl, hb1, hp1, hu1, ho1⟩; have HP1 := Lib.hid hp1; have HU1 := Lib.hid hu1; have HO1 := Lib.hid (show wr.heap.size ≤ b1 from hb1); clear hp1 hu1 ho1 hb1))
            | (go_at_call 8; ((with_reducible refine (clear_calls b1 v1 (stOf most l) _ HP1.out).mono ?_); rintro E w2 ⟨rfl, hp2, hc2⟩; have HP2 := Lib.hid hp2; have HU2 := Lib.hid (show Up wr w2 from ((Chg.of_up (S := []) HU1.out).call hc2 (fun x hx => Or.inr (by rw [List.mem_singleton.1 hx]; exact HO1.out))).up); clear hp2 hc2))
            | (go_at_call 10; ((with_reducible refine (move_calls b1 (.slice none 0 0) ⟨(stOf most l).most, [], Z, Z⟩ 5 0 _ HP2.out (show ([] : List Seg).length + 2 ≤ 100000000 by decide)).mono ?_); rintro E w3 ⟨rfl, hl3⟩; have hu3 : Up wr w3 := (((Chg.of_up (S := []) HU2.out).call hl3.toChg (fun x hx => Or.inr (by rcases List.mem_cons.1 hx with e3 | e3; (rw [e3]; exact HO1.out); (cases (own_of e3))))).up); have d0 := (hu3.cells.1 b _ hb2).trans c0; have d1 := (hu3.cells.1 b _ hb2).trans c1; have d2 := (hu3.cells.1 b _ hb2).trans c2; have d3 := (hu3.cells.1 b _ hb2).trans c3; have d4 := (hu3.cells.1 b _ hb2).trans c4; have d5 := (hu3.cells.1 b _ hb2).trans c5; have d6 := (hu3.cells.1 b _ hb2).trans c6; have hb3 : b < w3.heap.size := Nat.lt_of_lt_of_le hb2 hu3.size; have hz3 := hu3.size; have HU3 := Lib.hid hu3; clear hl3 hu3))
            | (go_at_call 22; ((with_reducible refine (both_calls w.heap.size g m most l v mv 6 x0 y0 x1 y1 x2 y2 _ [] e HE.out (HT.out.up HU3.out) (by omega) HK.out (by omega)).mono ?_); rintro E w5 ⟨rfl, hex, hc5⟩; obtain ⟨v5, mv5, ht5⟩ := hex; have hm5 : w5.cell? ⟨m, 1, none⟩ = some mv5 := ht5.ref.row.cell 1 rfl; have hlm5 := ht5.ref.row.lt; have HT5 := Lib.hid ht5; have HU5 := Lib.hid (show Up w w5 from ((Chg.of_up (S := []) (Up.call HUP.out HU3.out)).call hc5 (fun x hx => Or.inr (by rcases List.mem_cons.1 hx with e5 | e5; (rw [e5]; exact HT.out.gB); rcases List.mem_cons.1 e5 with e6 | e6; (rw [e6]; exact HT.out.mB); exact HT.out.vB x (own_of e6)))).up); clear ht5 hc5))
            | (go_at_call 7; ((with_reducible refine (current_calls g v5 (stOf most []) _ HT5.out.path).mono ?_); rintro E w6 ⟨rfl, hu6⟩; rw [show St.cur (stOf most ([] : List Seg)) = (((0 : Int), (0 : Int)), (10 : Int)) from rfl]; have hm6 := (hu6.cells.1 m 1 hlm5).trans hm5; have hlm6 : m < w6.heap.size := Nat.lt_of_lt_of_le hlm5 hu6.size; have HU6 := Lib.hid hu6; clear hu6))
            | (go_at_call 23; ((with_reducible refine (rcur_empty m mv5 most _ (HT5.out.ref.up (Up.call HU6.out (by (repeat' (first | (with_reducible exact Up.refl _) | (with_reducible assumption) | (with_reducible refine Up.alloc ?_ _) | (with_reducible refine Up.drew ?_) | (with_reducible refine Up.drewN ?_ _) | (with_reducible refine Up.setCell ?_ ?_ _) | (with_reducible refine Up.call ?_ (by with_reducible assumption)) | go_size)))))).mono ?_); rintro E w7 ⟨rfl, hu7⟩; have hu67 : Up w6 w7 := Up.call (by (repeat' (first | (with_reducible exact Up.refl _) | (with_reducible assumption) | (with_reducible refine Up.alloc ?_ _) | (with_reducible refine Up.drew ?_) | (with_reducible refine Up.drewN ?_ _) | (with_reducible refine Up.setCell ?_ ?_ _) | (with_reducible refine Up.call ?_ (by with_reducible assumption)) | go_size))) hu7; have RA7 : Row w7 w6.heap.size #[.int .i64 0, .int .i64 0] := Row.up (show Row _ w6.heap.size #[.int .i64 0, .int .i64 0] from (by apply Go.Proofs.Ytgfkfhkgidmepaa.Path.cast; (case h => (repeat (first | (with_reducible assumption) | (with_reducible apply Row.at; (simp; done)) | (with_reducible apply Row.alloc) | (with_reducible apply Row.drew) | (with_reducible apply Row.drewN) | (with_reducible apply Row.set) | ((with_reducible apply Row.other); (case hp => first | (simp; done) | (simp; omega) | omega))))); (case e => rfl))) hu7; have hm7 := (hu67.cells.1 m 1 hlm6).trans hm6; have hlm7 : m < w7.heap.size := Nat.lt_of_lt_of_le hlm6 hu67.size; have hl67 := RA7.lt; have HU67 := Lib.hid hu67; clear hu7 hu67))
            | (go_at_call 14; ((with_reducible refine (segments_calls g v5 (stOf most []) _ (HT5.out.path.up (Up.call HU6.out (Up.call HU67.out (by (repeat' (first | (with_reducible exact Up.refl _) | (with_reducible assumption) | (with_reducible refine Up.alloc ?_ _) | (with_reducible refine Up.drew ?_) | (with_reducible refine Up.drewN ?_ _) | (with_reducible refine Up.setCell ?_ ?_ _) | (with_reducible refine Up.call ?_ (by with_reducible assumption)) | go_size))))))).mono ?_); rintro E w8 ⟨v8, rfl, hs8, hu8, ho8⟩; have hu78 : Up w7 w8 := Up.call (by (repeat' (first | (with_reducible exact Up.refl _) | (with_reducible assumption) | (with_reducible refine Up.alloc ?_ _) | (with_reducible refine Up.drew ?_) | (with_reducible refine Up.drewN ?_ _) | (with_reducible refine Up.setCell ?_ ?_ _) | (with_reducible refine Up.call ?_ (by with_reducible assumption)) | go_size))) hu8; have RB8 : Row w8 w7.heap.size #[.int .i64 0, .int .i64 0] := Row.up (show Row _ w7.heap.size #[.int .i64 0, .int .i64 0] from (by apply Go.Proofs.Ytgfkfhkgidmepaa.Path.cast; (case h => (repeat (first | (with_reducible assumption) | (with_reducible apply Row.at; (simp; done)) | (with_reducible apply Row.alloc) | (with_reducible apply Row.drew) | (with_reducible apply Row.drewN) | (with_reducible apply Row.set) | ((with_reducible apply Row.other); (case hp => first | (simp; done) | (simp; omega) | omega))))); (case e => rfl))) hu8; have RA8 := RA7.up hu78; have a80 := RA8.cell 0 rfl; have a81 := RA8.cell 1 rfl; have b80 := RB8.cell 0 rfl; have b81 := RB8.cell 1 rfl; have la8 := RA8.lt; have lb8 := RB8.lt; have hm8 := (hu78.cells.1 m 1 hlm7).trans hm7; have hlm8 : m < w8.heap.size := Nat.lt_of_lt_of_le hlm7 hu78.size; replace hs8 : Segs w8 v8 [] := hs8; have hv8 := Segs.val hs8; obtain ⟨s8, n8, rfl⟩ := hv8; replace hs8 : Segs w8 (.slice s8 0 n8) [] := hs8; have hz8 := (Up.call HU6.out HU67.out).size; have HS8 := Lib.hid hs8; have HU78 := Lib.hid hu78; have HO8 := Lib.hid (fun x hx => (Nat.le_trans (by simp) (ho8 x hx) : w7.heap.size ≤ x)); clear hs8 hu8 hu78 ho8 RA7 RA8 RB8))
            | (go_at_call 21; ((with_reducible refine (same_calls (.slice s8 0 n8) mv5 [] [] _ (show SegV w8 (.slice s8 0 n8) [] from HS8.out.v) ((HT5.out.ref.segs.chg (S := []) (Chg.of_up (Up.call HU6.out (Up.call HU67.out HU78.out))) (by simp)).v)).mono ?_); rintro E w9 ⟨rfl, hu9⟩; rw [show decide (([] : List Seg) = []) = true from decide_eq_true rfl]; have HU9 := Lib.hid hu9; clear hu9))
            | (go_at_call 19; ((with_reducible refine (sound_calls (.slice s8 0 n8) [] _ ((show SegV w8 (.slice s8 0 n8) [] from HS8.out.v).up HU9.out)).mono ?_); rintro E w10 ⟨rfl, hu10⟩; rw [HSO.out]; have HU10 := Lib.hid hu10; clear hu10)))
            refine wp_loop_rounds 1 ?_
            repeat any_goals (rw [rounds_succ]; go_wp2)
            all_goals go_roundw
            case rel => exact ⟨k + 1, [], by omega, by omega, by go_num, rfl, by simp, ⟨_, _, HT5.out.up (Up.call (Up.call HU6.out (Up.call HU67.out HU78.out)) (Up.call HU9.out HU10.out))⟩, Up.call HU5.out (Up.call (Up.call HU6.out (Up.call HU67.out HU78.out)) (Up.call HU9.out HU10.out))⟩
            case measure => simp [intOf]; omega
          · have d6 : (kk == 6) = false := by simpa using h6
            go_wp2_with (first
            | (go_at_call 22; ((with_reducible refine (both_calls w.heap.size g m most l v mv kk x0 y0 x1 y1 x2 y2 _ [] e HE.out HT.out (by omega) HK.out (by omega)).mono ?_); rintro E w5 ⟨rfl, hex, hc5⟩; obtain ⟨v5, mv5, ht5⟩ := hex; have hm5 : w5.cell? ⟨m, 1, none⟩ = some mv5 := ht5.ref.row.cell 1 rfl; have hlm5 := ht5.ref.row.lt; have HT5 := Lib.hid ht5; have HU5 := Lib.hid (show Up w w5 from ((Chg.of_up (S := []) (HUP.out)).call hc5 (fun x hx => Or.inr (by rcases List.mem_cons.1 hx with e5 | e5; (rw [e5]; exact HT.out.gB); rcases List.mem_cons.1 e5 with e6 | e6; (rw [e6]; exact HT.out.mB); exact HT.out.vB x (own_of e6)))).up); clear ht5 hc5))
            | (go_at_call 7; ((with_reducible refine (current_calls g v5 (stOf most []) _ HT5.out.path).mono ?_); rintro E w6 ⟨rfl, hu6⟩; rw [show St.cur (stOf most ([] : List Seg)) = (((0 : Int), (0 : Int)), (10 : Int)) from rfl]; have hm6 := (hu6.cells.1 m 1 hlm5).trans hm5; have hlm6 : m < w6.heap.size := Nat.lt_of_lt_of_le hlm5 hu6.size; have HU6 := Lib.hid hu6; clear hu6))
            | (go_at_call 23; ((with_reducible refine (rcur_empty m mv5 most _ (HT5.out.ref.up (Up.call HU6.out (by (repeat' (first | (with_reducible exact Up.refl _) | (with_reducible assumption) | (with_reducible refine Up.alloc ?_ _) | (with_reducible refine Up.drew ?_) | (with_reducible refine Up.drewN ?_ _) | (with_reducible refine Up.setCell ?_ ?_ _) | (with_reducible refine Up.call ?_ (by with_reducible assumption)) | go_size)))))).mono ?_); rintro E w7 ⟨rfl, hu7⟩; have hu67 : Up w6 w7 := Up.call (by (repeat' (first | (with_reducible exact Up.refl _) | (with_reducible assumption) | (with_reducible refine Up.alloc ?_ _) | (with_reducible refine Up.drew ?_) | (with_reducible refine Up.drewN ?_ _) | (with_reducible refine Up.setCell ?_ ?_ _) | (with_reducible refine Up.call ?_ (by with_reducible assumption)) | go_size))) hu7; have RA7 : Row w7 w6.heap.size #[.int .i64 0, .int .i64 0] := Row.up (show Row _ w6.heap.size #[.int .i64 0, .int .i64 0] from (by apply Go.Proofs.Ytgfkfhkgidmepaa.Path.cast; (case h => (repeat (first | (with_reducible assumption) | (with_reducible apply Row.at; (simp; done)) | (with_reducible apply Row.alloc) | (with_reducible apply Row.drew) | (with_reducible apply Row.drewN) | (with_reducible apply Row.set) | ((with_reducible apply Row.other); (case hp => first | (simp; done) | (simp; omega) | omega))))); (case e => rfl))) hu7; have hm7 := (hu67.cells.1 m 1 hlm6).trans hm6; have hlm7 : m < w7.heap.size := Nat.lt_of_lt_of_le hlm6 hu67.size; have hl67 := RA7.lt; have HU67 := Lib.hid hu67; clear hu7 hu67))
            | (go_at_call 14; ((with_reducible refine (segments_calls g v5 (stOf most []) _ (HT5.out.path.up (Up.call HU6.out (Up.call HU67.out (by (repeat' (first | (with_reducible exact Up.refl _) | (with_reducible assumption) | (with_reducible refine Up.alloc ?_ _) | (with_reducible refine Up.drew ?_) | (with_reducible refine Up.drewN ?_ _) | (with_reducible refine Up.setCell ?_ ?_ _) | (with_reducible refine Up.call ?_ (by with_reducible assumption)) | go_size))))))).mono ?_); rintro E w8 ⟨v8, rfl, hs8, hu8, ho8⟩; have hu78 : Up w7 w8 := Up.call (by (repeat' (first | (with_reducible exact Up.refl _) | (with_reducible assumption) | (with_reducible refine Up.alloc ?_ _) | (with_reducible refine Up.drew ?_) | (with_reducible refine Up.drewN ?_ _) | (with_reducible refine Up.setCell ?_ ?_ _) | (with_reducible refine Up.call ?_ (by with_reducible assumption)) | go_size))) hu8; have RB8 : Row w8 w7.heap.size #[.int .i64 0, .int .i64 0] := Row.up (show Row _ w7.heap.size #[.int .i64 0, .int .i64 0] from (by apply Go.Proofs.Ytgfkfhkgidmepaa.Path.cast; (case h => (repeat (first | (with_reducible assumption) | (with_reducible apply Row.at; (simp; done)) | (with_reducible apply Row.alloc) | (with_reducible apply Row.drew) | (with_reducible apply Row.drewN) | (with_reducible apply Row.set) | ((with_reducible apply Row.other); (case hp => first | (simp; done) | (simp; omega) | omega))))); (case e => rfl))) hu8; have RA8 := RA7.up hu78; have a80 := RA8.cell 0 rfl; have a81 := RA8.cell 1 rfl; have b80 := RB8.cell 0 rfl; have b81 := RB8.cell 1 rfl; have la8 := RA8.lt; have lb8 := RB8.lt; have hm8 := (hu78.cells.1 m 1 hlm7).trans hm7; have hlm8 : m < w8.heap.size := Nat.lt_of_lt_of_le hlm7 hu78.size; replace hs8 : Segs w8 v8 [] := hs8; have hv8 := Segs.val hs8; obtain ⟨s8, n8, rfl⟩ := hv8; replace hs8 : Segs w8 (.slice s8 0 n8) [] := hs8; have hz8 := (Up.call HU6.out HU67.out).size; have HS8 := Lib.hid hs8; have HU78 := Lib.hid hu78; have HO8 := Lib.hid (fun x hx => (Nat.le_trans (by simp) (ho8 x hx) : w7.heap.size ≤ x)); clear hs8 hu8 hu78 ho8 RA7 RA8 RB8))
            | (go_at_call 21; ((with_reducible refine (same_calls (.slice s8 0 n8) mv5 [] [] _ (show SegV w8 (.slice s8 0 n8) [] from HS8.out.v) ((HT5.out.ref.segs.chg (S := []) (Chg.of_up (Up.call HU6.out (Up.call HU67.out HU78.out))) (by simp)).v)).mono ?_); rintro E w9 ⟨rfl, hu9⟩; rw [show decide (([] : List Seg) = []) = true from decide_eq_true rfl]; have HU9 := Lib.hid hu9; clear hu9))
            | (go_at_call 19; ((with_reducible refine (sound_calls (.slice s8 0 n8) [] _ ((show SegV w8 (.slice s8 0 n8) [] from HS8.out.v).up HU9.out)).mono ?_); rintro E w10 ⟨rfl, hu10⟩; rw [HSO.out]; have HU10 := Lib.hid hu10; clear hu10)))
            refine wp_loop_rounds 1 ?_
            repeat any_goals (rw [rounds_succ]; go_wp2)
            all_goals go_roundw
            case rel => exact ⟨k + 1, [], by omega, by omega, by go_num, rfl, by simp, ⟨_, _, HT5.out.up (Up.call (Up.call HU6.out (Up.call HU67.out HU78.out)) (Up.call HU9.out HU10.out))⟩, Up.call HU5.out (Up.call (Up.call HU6.out (Up.call HU67.out HU78.out)) (Up.call HU9.out HU10.out))⟩
            case measure => simp [intOf]; omega
        · obtain ⟨cx, cy, hxy⟩ : ∃ cx cy, curOf l' = (cx, cy) := ⟨_, _, rfl⟩
          have HXY := Lib.hid hxy
          have HCUR := Lib.hid (show St.cur (stOf most l') = ((cx, cy), 0) by rw [cur_some hne, hxy])
          have hq : ∀ w, (Op.equalIn 10000 23 (.agg #[.int .i64 cx, .int .i64 cy]) (.agg #[.int .i64 cx, .int .i64 cy])).run Try.prog w = .ok true w := fun w => by rw [run_eqPt 9998]; simp
          clear hxy
          by_cases h6 : kk = 6
          · subst h6
            go_wp2_with (first
            | (go_at_call 15; ((with_reducible refine (copy_calls g v (stOf most l) _ (HT.out.path.up (by (repeat' (first | (with_reducible exact Up.refl _) | (with_reducible assumption) | (with_reducible refine Up.alloc ?_ _) | (with_reducible refine Up.drew ?_) | (with_reducible refine Up.drewN ?_ _) | (with_reducible refine Up.setCell ?_ ?_ _) | (with_reducible refine Up.call ?_ (by with_reducible assumption)) | go_size))))).mono ?_); rintro E w1 ⟨b1, v1, rfl, hb1, hp1, hu1, ho1⟩; have HP1 := Lib.hid hp1; have HU1 := Lib.hid hu1; have HO1 := Lib.hid (show wr.heap.size ≤ b1 from hb1); clear hp1 hu1 ho1 hb1))
            | (go_at_call 8; ((with_reducible refine (clear_calls b1 v1 (stOf most l) _ HP1.out).mono ?_); rintro E w2 ⟨rfl, hp2, hc2⟩; have HP2 := Lib.hid hp2; have HU2 := Lib.hid (show Up wr w2 from ((Chg.of_up (S := []) HU1.out).call hc2 (fun x hx => Or.inr (by rw [List.mem_singleton.1 hx]; exact HO1.out))).up); clear hp2 hc2))
            | (go_at_call 10; ((with_reducible refine (move_calls b1 (.slice none 0 0) ⟨(stOf most l).most, [], Z, Z⟩ 5 0 _ HP2.out (show ([] : List Seg).length + 2 ≤ 100000000 by decide)).mono ?_); rintro E w3 ⟨rfl, hl3⟩; have hu3 : Up wr w3 := (((Chg.of_up (S := []) HU2.out).call hl3.toChg (fun x hx => Or.inr (by rcases List.mem_cons.1 hx with e3 | e3; (rw [e3]; exact HO1.out); (cases (own_of e3))))).up); have d0 := (hu3.cells.1 b _ hb2).trans c0; have d1 := (hu3.cells.1 b _ hb2).trans c1; have d2 := (hu3.cells.1 b _ hb2).trans c2; have d3 := (hu3.cells.1 b _ hb2).trans c3; have d4 := (hu3.cells.1 b _ hb2).trans c4; have d5 := (hu3.cells.1 b _ hb2).trans c5; have d6 := (hu3.cells.1 b _ hb2).trans c6; have hb3 : b < w3.heap.size := Nat.lt_of_lt_of_le hb2 hu3.size; have hz3 := hu3.size; have HU3 := Lib.hid hu3; clear hl3 hu3))
            | (go_at_call 22; ((with_reducible refine (both_calls w.heap.size g m most l v mv 6 x0 y0 x1 y1 x2 y2 _ l' e HE.out (HT.out.up HU3.out) (by omega) HK.out (by omega)).mono ?_); rintro E w5 ⟨rfl, hex, hc5⟩; obtain ⟨v5, mv5, ht5⟩ := hex; have hm5 : w5.cell? ⟨m, 1, none⟩ = some mv5 := ht5.ref.row.cell 1 rfl; have hlm5 := ht5.ref.row.lt; have HT5 := Lib.hid ht5; have HU5 := Lib.hid (show Up w w5 from ((Chg.of_up (S := []) (Up.call HUP.out HU3.out)).call hc5 (fun x hx => Or.inr (by rcases List.mem_cons.1 hx with e5 | e5; (rw [e5]; exact HT.out.gB); rcases List.mem_cons.1 e5 with e6 | e6; (rw [e6]; exact HT.out.mB); exact HT.out.vB x (own_of e6)))).up); clear ht5 hc5))
            | (go_at_call 7; ((with_reducible refine (current_calls g v5 (stOf most l') _ HT5.out.path).mono ?_); rintro E w6 ⟨rfl, hu6⟩; rw [HCUR.out]; have hm6 := (hu6.cells.1 m 1 hlm5).trans hm5; have hlm6 : m < w6.heap.size := Nat.lt_of_lt_of_le hlm5 hu6.size; have HU6 := Lib.hid hu6; clear hu6))
            | (go_at_call 23; ((with_reducible refine (rcur_calls m mv5 most l' _ (HT5.out.ref.up (Up.call HU6.out (by (repeat' (first | (with_reducible exact Up.refl _) | (with_reducible assumption) | (with_reducible refine Up.alloc ?_ _) | (with_reducible refine Up.drew ?_) | (with_reducible refine Up.drewN ?_ _) | (with_reducible refine Up.setCell ?_ ?_ _) | (with_reducible refine Up.call ?_ (by with_reducible assumption)) | go_size))))) hne cx cy HXY.out).mono ?_); rintro E w7 ⟨rfl, hu7⟩; have hu67 : Up w6 w7 := Up.call (by (repeat' (first | (with_reducible exact Up.refl _) | (with_reducible assumption) | (with_reducible refine Up.alloc ?_ _) | (with_reducible refine Up.drew ?_) | (with_reducible refine Up.drewN ?_ _) | (with_reducible refine Up.setCell ?_ ?_ _) | (with_reducible refine Up.call ?_ (by with_reducible assumption)) | go_size))) hu7; have RA7 : Row w7 w6.heap.size #[.int .i64 cx, .int .i64 cy] := Row.up (show Row _ w6.heap.size #[.int .i64 cx, .int .i64 cy] from (by apply Go.Proofs.Ytgfkfhkgidmepaa.Path.cast; (case h => (repeat (first | (with_reducible assumption) | (with_reducible apply Row.at; (simp; done)) | (with_reducible apply Row.alloc) | (with_reducible apply Row.drew) | (with_reducible apply Row.drewN) | (with_reducible apply Row.set) | ((with_reducible apply Row.other); (case hp => first | (simp; done) | (simp; omega) | omega))))); (case e => rfl))) hu7; have hm7 := (hu67.cells.1 m 1 hlm6).trans hm6; have hlm7 : m < w7.heap.size := Nat.lt_of_lt_of_le hlm6 hu67.size; have hl67 := RA7.lt; have HU67 := Lib.hid hu67; clear hu7 hu67))
            | (go_at_call 14; ((with_reducible refine (segments_calls g v5 (stOf most l') _ (HT5.out.path.up (Up.call HU6.out (Up.call HU67.out (by (repeat' (first | (with_reducible exact Up.refl _) | (with_reducible assumption) | (with_reducible refine Up.alloc ?_ _) | (with_reducible refine Up.drew ?_) | (with_reducible refine Up.drewN ?_ _) | (with_reducible refine Up.setCell ?_ ?_ _) | (with_reducible refine Up.call ?_ (by with_reducible assumption)) | go_size))))))).mono ?_); rintro E w8 ⟨v8, rfl, hs8, hu8, ho8⟩; have hu78 : Up w7 w8 := Up.call (by (repeat' (first | (with_reducible exact Up.refl _) | (with_reducible assumption) | (with_reducible refine Up.alloc ?_ _) | (with_reducible refine Up.drew ?_) | (with_reducible refine Up.drewN ?_ _) | (with_reducible refine Up.setCell ?_ ?_ _) | (with_reducible refine Up.call ?_ (by with_reducible assumption)) | go_size))) hu8; have RB8 : Row w8 w7.heap.size #[.int .i64 cx, .int .i64 cy] := Row.up (show Row _ w7.heap.size #[.int .i64 cx, .int .i64 cy] from (by apply Go.Proofs.Ytgfkfhkgidmepaa.Path.cast; (case h => (repeat (first | (with_reducible assumption) | (with_reducible apply Row.at; (simp; done)) | (with_reducible apply Row.alloc) | (with_reducible apply Row.drew) | (with_reducible apply Row.drewN) | (with_reducible apply Row.set) | ((with_reducible apply Row.other); (case hp => first | (simp; done) | (simp; omega) | omega))))); (case e => rfl))) hu8; have RA8 := RA7.up hu78; have a80 := RA8.cell 0 rfl; have a81 := RA8.cell 1 rfl; have b80 := RB8.cell 0 rfl; have b81 := RB8.cell 1 rfl; have la8 := RA8.lt; have lb8 := RB8.lt; have hm8 := (hu78.cells.1 m 1 hlm7).trans hm7; have hlm8 : m < w8.heap.size := Nat.lt_of_lt_of_le hlm7 hu78.size; replace hs8 : Segs w8 v8 l' := hs8; have hv8 := Segs.val hs8; obtain ⟨s8, n8, rfl⟩ := hv8;  have hz8 := (Up.call HU6.out HU67.out).size; have HS8 := Lib.hid hs8; have HU78 := Lib.hid hu78; have HO8 := Lib.hid (fun x hx => (Nat.le_trans (by simp) (ho8 x hx) : w7.heap.size ≤ x)); clear hs8 hu8 hu78 ho8 RA7 RA8 RB8))
            | (go_at_call 21; ((with_reducible refine (same_calls _ mv5 l' l' _ HS8.out.v ((HT5.out.ref.segs.chg (S := []) (Chg.of_up (Up.call HU6.out (Up.call HU67.out HU78.out))) (by simp)).v)).mono ?_); rintro E w9 ⟨rfl, hu9⟩; rw [show decide ((l' : List Seg) = l') = true from decide_eq_true rfl]; have HU9 := Lib.hid hu9; clear hu9))
            | (go_at_call 19; ((with_reducible refine (sound_calls _ l' _ (HS8.out.v.up HU9.out)).mono ?_); rintro E w10 ⟨rfl, hu10⟩; rw [HSO.out]; have HU10 := Lib.hid hu10; clear hu10)))
            rcases HS8.out.form with ⟨h8, h9⟩ | ⟨x8, cap8, h8, hn8, hm8', hx8⟩
            · exact absurd h9 hne
            injection h8 with h81 h82 h83
            subst h81 h83
            have hu810 := Up.call HU9.out HU10.out
            obtain ⟨cs8, hr8, hc8⟩ := segs_row (HS8.out.chg (S := []) (Chg.of_up hu810) (by simp)) rfl
            have HR8 := Lib.hid hr8
            obtain ⟨n', hn'⟩ : ∃ n, l'.length = n := ⟨_, rfl⟩
            have HN' := Lib.hid hn'
            rw [hn'] at hc8 hn8 hl' ⊢
            have hxw := HO8.out x8 rfl
            have hnn : n' ≤ 1000 := by omega
            clear hr8 hn' hm5 hm6 hm7 hm8 a80 a81 b80 b81
            obtain ⟨wo, hwo⟩ : ∃ z, z = wr := ⟨wr, rfl⟩
            subst hwo
            go_loopw [16] (fun j wr => Clr w10 x8 n' j wr) (fun j _ => n' - (intOf j).toNat)
            case atStart => exact ⟨0, Nat.zero_le _, rfl, Chg.refl _ _, cs8, HR8.out, hc8⟩
            case round =>
              obtain ⟨j, hj, rfl, hcw, cs, hrow, hcs⟩ := hrel
              have HCW := Lib.hid hcw
              have HROW := Lib.hid hrow
              have hxl := hrow.lt
              by_cases hlj : j < n'
              · obtain ⟨u0, e0⟩ := cells_of hrow hcs hlj 0 (by decide)
                obtain ⟨u1, e1⟩ := cells_of hrow hcs hlj 1 (by decide)
                obtain ⟨u2, e2⟩ := cells_of hrow hcs hlj 2 (by decide)
                obtain ⟨u3, e3⟩ := cells_of hrow hcs hlj 3 (by decide)
                obtain ⟨u4, e4⟩ := cells_of hrow hcs hlj 4 (by decide)
                obtain ⟨u5, e5⟩ := cells_of hrow hcs hlj 5 (by decide)
                obtain ⟨u6, e6⟩ := cells_of hrow hcs hlj 6 (by decide)
                rw [Nat.add_zero] at e0
                have z0 := hrow.free (j * 7)
                have z1 := hrow.free (j * 7 + 1)
                have z2 := hrow.free (j * 7 + 2)
                have z3 := hrow.free (j * 7 + 3)
                have z4 := hrow.free (j * 7 + 4)
                have z5 := hrow.free (j * 7 + 5)
                have z6 := hrow.free (j * 7 + 6)
                clear hcw hrow
                go_wp2
                go_roundw
                case rel =>
                  refine ⟨j + 1, by omega, by go_num, ?_, _, ((((((HROW.out.set _ _).set _ _).set _ _).set _ _).set _ _).set _ _).set _ _, by simpa using hcs⟩
                  exact ((((((HCW.out.setCell (Or.inl (by simp)) _).setCell (Or.inl (by simp)) _).setCell (Or.inl (by simp)) _).setCell (Or.inl (by simp)) _).setCell (Or.inl (by simp)) _).setCell (Or.inl (by simp)) _).setCell (Or.inl (by simp)) _
                case measure => simp [intOf]; omega
              · have hjn : j = n' := by omega
                subst hjn
                clear hcw hrow
                go_wp2
                go_roundw
                case rel =>
                  have hu5x : Up w5 w10 := Up.call (Up.call HU6.out (Up.call HU67.out HU78.out)) (Up.call HU9.out HU10.out)
                  have hz5 := HU5.out.size
                  refine ⟨k + 1, l', by omega, by omega, by go_num, HS'.out, by rw [HN'.out]; omega, ⟨_, _, (HT5.out.up hu5x).chg HCW.out ?_ ?_ ?_ ?_⟩, ?_⟩
                  · intro h
                    have h1 := HT5.out.path.row.lt
                    have h2 := List.mem_singleton.1 h
                    omega
                  · intro h
                    have h1 := HT5.out.ref.row.lt
                    have h2 := List.mem_singleton.1 h
                    omega
                  · intro x hx h
                    have h1 := segs_lt HT5.out.path.segs x hx
                    have h2 := List.mem_singleton.1 h
                    omega
                  · intro x hx h
                    have h1 := segs_lt HT5.out.ref.segs x hx
                    have h2 := List.mem_singleton.1 h
                    omega
                  · exact ((Chg.of_up (S := []) (Up.call HU5.out hu5x)).call HCW.out (fun x hx => Or.inr (by rw [List.mem_singleton.1 hx]; omega))).up
                case measure => simp [intOf]; omega
          · have d6 : (kk == 6) = false := by simpa using h6
            go_wp2_with (first
            | (go_at_call 22; ((with_reducible refine (both_calls w.heap.size g m most l v mv kk x0 y0 x1 y1 x2 y2 _ l' e HE.out HT.out (by omega) HK.out (by omega)).mono ?_); rintro E w5 ⟨rfl, hex, hc5⟩; obtain ⟨v5, mv5, ht5⟩ := hex; have hm5 : w5.cell? ⟨m, 1, none⟩ = some mv5 := ht5.ref.row.cell 1 rfl; have hlm5 := ht5.ref.row.lt; have HT5 := Lib.hid ht5; have HU5 := Lib.hid (show Up w w5 from ((Chg.of_up (S := []) (HUP.out)).call hc5 (fun x hx => Or.inr (by rcases List.mem_cons.1 hx with e5 | e5; (rw [e5]; exact HT.out.gB); rcases List.mem_cons.1 e5 with e6 | e6; (rw [e6]; exact HT.out.mB); exact HT.out.vB x (own_of e6)))).up); clear ht5 hc5))
            | (go_at_call 7; ((with_reducible refine (current_calls g v5 (stOf most l') _ HT5.out.path).mono ?_); rintro E w6 ⟨rfl, hu6⟩; rw [HCUR.out]; have hm6 := (hu6.cells.1 m 1 hlm5).trans hm5; have hlm6 : m < w6.heap.size := Nat.lt_of_lt_of_le hlm5 hu6.size; have HU6 := Lib.hid hu6; clear hu6))
            | (go_at_call 23; ((with_reducible refine (rcur_calls m mv5 most l' _ (HT5.out.ref.up (Up.call HU6.out (by (repeat' (first | (with_reducible exact Up.refl _) | (with_reducible assumption) | (with_reducible refine Up.alloc ?_ _) | (with_reducible refine Up.drew ?_) | (with_reducible refine Up.drewN ?_ _) | (with_reducible refine Up.setCell ?_ ?_ _) | (with_reducible refine Up.call ?_ (by with_reducible assumption)) | go_size))))) hne cx cy HXY.out).mono ?_); rintro E w7 ⟨rfl, hu7⟩; have hu67 : Up w6 w7 := Up.call (by (repeat' (first | (with_reducible exact Up.refl _) | (with_reducible assumption) | (with_reducible refine Up.alloc ?_ _) | (with_reducible refine Up.drew ?_) | (with_reducible refine Up.drewN ?_ _) | (with_reducible refine Up.setCell ?_ ?_ _) | (with_reducible refine Up.call ?_ (by with_reducible assumption)) | go_size))) hu7; have RA7 : Row w7 w6.heap.size #[.int .i64 cx, .int .i64 cy] := Row.up (show Row _ w6.heap.size #[.int .i64 cx, .int .i64 cy] from (by apply Go.Proofs.Ytgfkfhkgidmepaa.Path.cast; (case h => (repeat (first | (with_reducible assumption) | (with_reducible apply Row.at; (simp; done)) | (with_reducible apply Row.alloc) | (with_reducible apply Row.drew) | (with_reducible apply Row.drewN) | (with_reducible apply Row.set) | ((with_reducible apply Row.other); (case hp => first | (simp; done) | (simp; omega) | omega))))); (case e => rfl))) hu7; have hm7 := (hu67.cells.1 m 1 hlm6).trans hm6; have hlm7 : m < w7.heap.size := Nat.lt_of_lt_of_le hlm6 hu67.size; have hl67 := RA7.lt; have HU67 := Lib.hid hu67; clear hu7 hu67))
            | (go_at_call 14; ((with_reducible refine (segments_calls g v5 (stOf most l') _ (HT5.out.path.up (Up.call HU6.out (Up.call HU67.out (by (repeat' (first | (with_reducible exact Up.refl _) | (with_reducible assumption) | (with_reducible refine Up.alloc ?_ _) | (with_reducible refine Up.drew ?_) | (with_reducible refine Up.drewN ?_ _) | (with_reducible refine Up.setCell ?_ ?_ _) | (with_reducible refine Up.call ?_ (by with_reducible assumption)) | go_size))))))).mono ?_); rintro E w8 ⟨v8, rfl, hs8, hu8, ho8⟩; have hu78 : Up w7 w8 := Up.call (by (repeat' (first | (with_reducible exact Up.refl _) | (with_reducible assumption) | (with_reducible refine Up.alloc ?_ _) | (with_reducible refine Up.drew ?_) | (with_reducible refine Up.drewN ?_ _) | (with_reducible refine Up.setCell ?_ ?_ _) | (with_reducible refine Up.call ?_ (by with_reducible assumption)) | go_size))) hu8; have RB8 : Row w8 w7.heap.size #[.int .i64 cx, .int .i64 cy] := Row.up (show Row _ w7.heap.size #[.int .i64 cx, .int .i64 cy] from (by apply Go.Proofs.Ytgfkfhkgidmepaa.Path.cast; (case h => (repeat (first | (with_reducible assumption) | (with_reducible apply Row.at; (simp; done)) | (with_reducible apply Row.alloc) | (with_reducible apply Row.drew) | (with_reducible apply Row.drewN) | (with_reducible apply Row.set) | ((with_reducible apply Row.other); (case hp => first | (simp; done) | (simp; omega) | omega))))); (case e => rfl))) hu8; have RA8 := RA7.up hu78; have a80 := RA8.cell 0 rfl; have a81 := RA8.cell 1 rfl; have b80 := RB8.cell 0 rfl; have b81 := RB8.cell 1 rfl; have la8 := RA8.lt; have lb8 := RB8.lt; have hm8 := (hu78.cells.1 m 1 hlm7).trans hm7; have hlm8 : m < w8.heap.size := Nat.lt_of_lt_of_le hlm7 hu78.size; replace hs8 : Segs w8 v8 l' := hs8; have hv8 := Segs.val hs8; obtain ⟨s8, n8, rfl⟩ := hv8;  have hz8 := (Up.call HU6.out HU67.out).size; have HS8 := Lib.hid hs8; have HU78 := Lib.hid hu78; have HO8 := Lib.hid (fun x hx => (Nat.le_trans (by simp) (ho8 x hx) : w7.heap.size ≤ x)); clear hs8 hu8 hu78 ho8 RA7 RA8 RB8))
            | (go_at_call 21; ((with_reducible refine (same_calls _ mv5 l' l' _ HS8.out.v ((HT5.out.ref.segs.chg (S := []) (Chg.of_up (Up.call HU6.out (Up.call HU67.out HU78.out))) (by simp)).v)).mono ?_); rintro E w9 ⟨rfl, hu9⟩; rw [show decide ((l' : List Seg) = l') = true from decide_eq_true rfl]; have HU9 := Lib.hid hu9; clear hu9))
            | (go_at_call 19; ((with_reducible refine (sound_calls _ l' _ (HS8.out.v.up HU9.out)).mono ?_); rintro E w10 ⟨rfl, hu10⟩; rw [HSO.out]; have HU10 := Lib.hid hu10; clear hu10)))
            rcases HS8.out.form with ⟨h8, h9⟩ | ⟨x8, cap8, h8, hn8, hm8', hx8⟩
            · exact absurd h9 hne
            injection h8 with h81 h82 h83
            subst h81 h83
            have hu810 := Up.call HU9.out HU10.out
            obtain ⟨cs8, hr8, hc8⟩ := segs_row (HS8.out.chg (S := []) (Chg.of_up hu810) (by simp)) rfl
            have HR8 := Lib.hid hr8
            obtain ⟨n', hn'⟩ : ∃ n, l'.length = n := ⟨_, rfl⟩
            have HN' := Lib.hid hn'
            rw [hn'] at hc8 hn8 hl' ⊢
            have hxw := HO8.out x8 rfl
            have hnn : n' ≤ 1000 := by omega
            clear hr8 hn' hm5 hm6 hm7 hm8 a80 a81 b80 b81
            obtain ⟨wo, hwo⟩ : ∃ z, z = wr := ⟨wr, rfl⟩
            subst hwo
            go_loopw [16] (fun j wr => Clr w10 x8 n' j wr) (fun j _ => n' - (intOf j).toNat)
            case atStart => exact ⟨0, Nat.zero_le _, rfl, Chg.refl _ _, cs8, HR8.out, hc8⟩
            case round =>
              obtain ⟨j, hj, rfl, hcw, cs, hrow, hcs⟩ := hrel
              have HCW := Lib.hid hcw
              have HROW := Lib.hid hrow
              have hxl := hrow.lt
              by_cases hlj : j < n'
              · obtain ⟨u0, e0⟩ := cells_of hrow hcs hlj 0 (by decide)
                obtain ⟨u1, e1⟩ := cells_of hrow hcs hlj 1 (by decide)
                obtain ⟨u2, e2⟩ := cells_of hrow hcs hlj 2 (by decide)
                obtain ⟨u3, e3⟩ := cells_of hrow hcs hlj 3 (by decide)
                obtain ⟨u4, e4⟩ := cells_of hrow hcs hlj 4 (by decide)
                obtain ⟨u5, e5⟩ := cells_of hrow hcs hlj 5 (by decide)
                obtain ⟨u6, e6⟩ := cells_of hrow hcs hlj 6 (by decide)
                rw [Nat.add_zero] at e0
                have z0 := hrow.free (j * 7)
                have z1 := hrow.free (j * 7 + 1)
                have z2 := hrow.free (j * 7 + 2)
                have z3 := hrow.free (j * 7 + 3)
                have z4 := hrow.free (j * 7 + 4)
                have z5 := hrow.free (j * 7 + 5)
                have z6 := hrow.free (j * 7 + 6)
                clear hcw hrow
                go_wp2
                go_roundw
                case rel =>
                  refine ⟨j + 1, by omega, by go_num, ?_, _, ((((((HROW.out.set _ _).set _ _).set _ _).set _ _).set _ _).set _ _).set _ _, by simpa using hcs⟩
                  exact ((((((HCW.out.setCell (Or.inl (by simp)) _).setCell (Or.inl (by simp)) _).setCell (Or.inl (by simp)) _).setCell (Or.inl (by simp)) _).setCell (Or.inl (by simp)) _).setCell (Or.inl (by simp)) _).setCell (Or.inl (by simp)) _
                case measure => simp [intOf]; omega
              · have hjn : j = n' := by omega
                subst hjn
                clear hcw hrow
                go_wp2
                go_roundw
                case rel =>
                  have hu5x : Up w5 w10 := Up.call (Up.call HU6.out (Up.call HU67.out HU78.out)) (Up.call HU9.out HU10.out)
                  have hz5 := HU5.out.size
                  refine ⟨k + 1, l', by omega, by omega, by go_num, HS'.out, by rw [HN'.out]; omega, ⟨_, _, (HT5.out.up hu5x).chg HCW.out ?_ ?_ ?_ ?_⟩, ?_⟩
                  · intro h
                    have h1 := HT5.out.path.row.lt
                    have h2 := List.mem_singleton.1 h
                    omega
                  · intro h
                    have h1 := HT5.out.ref.row.lt
                    have h2 := List.mem_singleton.1 h
                    omega
                  · intro x hx h
                    have h1 := segs_lt HT5.out.path.segs x hx
                    have h2 := List.mem_singleton.1 h
                    omega
                  · intro x hx h
                    have h1 := segs_lt HT5.out.ref.segs x hx
                    have h2 := List.mem_singleton.1 h
                    omega
                  · exact ((Chg.of_up (S := []) (Up.call HU5.out hu5x)).call HCW.out (fun x hx => Or.inr (by rw [List.mem_singleton.1 hx]; omega))).up
                case measure => simp [intOf]; omega
      · have hk' : k = 100 := by omega
        subst hk'
        go_wp2
        go_ret
        exact ⟨rfl, HUP.out⟩
    · go_wp2
      go_ret
      exact ⟨rfl, HUP.out⟩

theorem own : ownKnob Try.prog.godebug = none := by kernel_rfl
theorem laidOut : laidOutB Try.prog = true := by kernel_rfl
set_option maxRecDepth 100000 in
theorem lifted (os : Os) (started : os.Started) (H : Type) (enc : TypeId × Value → H) :
    ReturnsInHanded {} Try.checked os 6 .any (Rows.pathActsSpec.pre6 enc Try.prog Try.f6 Rows.pathActsRow.domain false) (Rows.pathActsSpec.post enc Try.prog Try.f6 false true false false) := by
  refine returnsInHanded_of_change (C := Try.checked) own started (by kernel_rfl) Try.func6
    (ChangeSpec.witness6 (enc := enc) (C := Try.checked) false ⟨#[], #[.int .i64 0, .slice none 0 0], []⟩ 8 (by kernel_rfl) (by kernel_rfl) (by kernel_rfl) (by kernel_rfl)) ?_
  intro W base args ds gs before hval0 hW hcnd _
  have hval : ∀ (j : Nat) t v, Try.f6.params[j]? = some t → args[j]? = some v → Value.okWide Try.prog W .any base t v := hval0
  have hW' := hW
  obtain ⟨p, q, hA0, hV, rfl, hfz, hnd⟩ := hW
  have hA : DataW.TrodAll enc Try.prog W 0 (fun _ => true) true Try.f6.params.toList args.toList ds p := hA0
  rw [Try.params6] at hA hval
  obtain ⟨v0, vs0, d0, ds0, p0, q0, hargs, rfl, rfl, h0, r0⟩ := trodAll_cons hA
  obtain ⟨v1, vs1, d1, ds1, p1, q1, rfl, rfl, rfl, h1, r1⟩ := trodAll_cons r0
  obtain ⟨rfl, rfl, rfl⟩ := trodAll_nil r1
  obtain rfl : args = #[v0, v1] := by cases args; simp_all
  obtain ⟨rfl, rfl⟩ := trodVars_none hV
  have k0 := h0
  have lt0 : ∀ x ∈ p0, x.block < W.heap.size := by obtain ⟨m, hm⟩ := k0; exact DataW.trod_lt m _ _ _ hm
  have k1 := h1
  have lt1 : ∀ x ∈ p1, x.block < W.heap.size := by obtain ⟨m, hm⟩ := k1; exact DataW.trod_lt m _ _ _ hm
  obtain ⟨a0, rfl, rfl, rfl, w0⟩ := open_int Try.underlying3 (hval 0 3 v0 rfl rfl) h0
  obtain ⟨a1, len1, cap1, rfl⟩ := okWide_slice Try.underlying47 (hval 1 47 v1 rfl rfl)
  obtain ⟨l1, g1⟩ := actIs_of h1
  clear hA0 hval0
  refine (walk (w := W) a0 a1 len1 cap1 l1 w0 g1 ).mono fun e W' ⟨he, bel⟩ => ?_
  subst he
  exact ⟨_, rfl, _, _, _, [], _, [], hW', trodAll_mk1 (shut_bool Try.underlying4 _), (trodAll_cons_mk (Below.trod laidOut (by kernel_rfl) (of_decide_eq_true (by kernel_rfl)) k0 bel lt0) (trodAll_cons_mk (Below.trod laidOut (by kernel_rfl) (of_decide_eq_true (by kernel_rfl)) k1 bel lt1) trodAll_mk0)), rfl, bel.frame _, fun h => by cases h⟩

theorem over : Rows.pathActsRow.holds Try.pinned (OpenSpec.ofChange Rows.pathActsSpec) :=
  OpenClaim.holds_of_wide 6 Try.f6 rfl rfl rfl rfl rfl rfl rfl ⟨rfl, rfl, rfl, rfl, rfl⟩ rfl rfl rfl rfl rfl (by kernel_rfl) Try.func6 (by kernel_rfl)
    (of_decide_eq_true (by kernel_rfl)) (by unfold Func.isWrapper; first | (rw [if_pos (by decide +kernel)]; kernel_rfl) | (rw [if_neg (by decide +kernel)]; exact ⟨rfl, rfl⟩))
    (fun os started H enc _ => lifted os started H enc)

/-- THE STATEMENT -/
theorem proved : Rows.PathActsSaid := over
#print axioms proved
end Go.Proofs.Ytgfkfhkgidmepaa.pathActs
