/- Two lists of segments are compared. -/
import Derived.Test.YtpellcdggaeppaaGreatDoorGPathW8
import Derived.Test.YtpellcdggaeppaaGreatDoorEqS
import Derived.LoopN
namespace Go.Proofs.YtpellcdggaeppaaGreatDoor.Path
open Go.ChangeShapes Go.WideShapes Go.ChangeAt Go.RowKit
open Go.Proofs.YtpellcdggaeppaaGreatDoor.FixM (fits)
open Go.Proofs.YtpellcdggaeppaaGreatDoor.PathM
set_option linter.unusedVariables false
set_option linter.unusedSimpArgs false

theorem take_eq_step {l m : List Seg} {k : Nat} {s : Seg} (h : l.take k = m.take k) (h1 : l[k]? = some s) (h2 : m[k]? = some s) : l.take (k + 1) = m.take (k + 1) := by
  rw [take_succ_of h1, take_succ_of h2, h]

theorem same_calls (v1 v2 : Value) (l m : List Seg) (w : World) (h : SegV w v1 l) (h' : SegV w v2 m) :
    Calls Tryz.prog 56 #[v1, v2] w fun e w' => e = .returned (.bool (decide (l = m))) ∧ Up w w' := by
  by_cases hlen : l.length = m.length
  · rcases h with ⟨a, cap, rfl, rfl⟩ | ⟨b, o, cap, rfl, h0, hb, hs, hl⟩
    · obtain rfl : m = [] := List.eq_nil_of_length_eq_zero hlen.symm
      rcases h' with ⟨a', cap', rfl, -⟩ | ⟨b', o', cap', rfl, h0', hb', hs', hl'⟩
      · go_enter Tryz.func56, Tryz.ntmps56
        go_wp2
        refine wp_loop_rounds 1 ?_
        repeat any_goals (rw [rounds_succ]; go_wp2)
        go_ret
        exact ⟨rfl, by (repeat' (first | (with_reducible first | exact Up.refl _ | assumption | refine Up.alloc ?_ _ | refine Up.drew ?_ | refine Up.drewN ?_ _ | refine Up.setCell ?_ ?_ _ | refine Up.call ?_ (by assumption)) | go_size))⟩
      · exact absurd h0' (by simp)
    · rcases h' with ⟨a', cap', rfl, rfl⟩ | ⟨b', o', cap', rfl, h0', hb', hs', hl'⟩
      · simp at hlen; subst hlen; simp at h0
      · have HS := Lib.hid hs
        have HS' := Lib.hid hs'
        rw [← hlen]
        have HL := Lib.hid hlen
        clear hs hs' hlen
        go_enter Tryz.func56, Tryz.ntmps56
        go_wp2
        go_loopw [5] (fun i wr => ∃ k : Nat, k ≤ l.length ∧ i = .int .i64 k ∧ l.take k = m.take k ∧ Up w wr) (fun i _ => l.length - (intOf i).toNat)
        case atStart => exact ⟨0, Nat.zero_le _, rfl, rfl, Up.refl _⟩
        case round =>
          obtain ⟨k, hk, rfl, hno, hup⟩ := hrel
          have HN := Lib.hid hno
          clear hno
          by_cases hlt : k < l.length
          · obtain ⟨kk, x0, y0, x1, y1, x2, y2, hg⟩ : ∃ kk x0 y0 x1 y1 x2 y2, l[k]? = some ⟨kk, (x0, y0), (x1, y1), (x2, y2)⟩ := ⟨_, _, _, _, _, _, _, List.getElem?_eq_getElem hlt⟩
            obtain ⟨kk', x0', y0', x1', y1', x2', y2', hg'⟩ : ∃ kk x0 y0 x1 y1 x2 y2, m[k]? = some ⟨kk, (x0, y0), (x1, y1), (x2, y2)⟩ := ⟨_, _, _, _, _, _, _, List.getElem?_eq_getElem (by have := HL.out; omega)⟩
            obtain ⟨c0, c1, c2, c3, c4, c5, c6⟩ := HS.out.seven k _ _ _ _ _ _ _ hg
            replace c0 := (hup.cells.1 b _ hb).trans c0
            replace c1 := (hup.cells.1 b _ hb).trans c1
            replace c2 := (hup.cells.1 b _ hb).trans c2
            replace c3 := (hup.cells.1 b _ hb).trans c3
            replace c4 := (hup.cells.1 b _ hb).trans c4
            replace c5 := (hup.cells.1 b _ hb).trans c5
            replace c6 := (hup.cells.1 b _ hb).trans c6
            obtain ⟨d0, d1, d2, d3, d4, d5, d6⟩ := HS'.out.seven k _ _ _ _ _ _ _ hg'
            replace d0 := (hup.cells.1 b' _ hb').trans d0
            replace d1 := (hup.cells.1 b' _ hb').trans d1
            replace d2 := (hup.cells.1 b' _ hb').trans d2
            replace d3 := (hup.cells.1 b' _ hb').trans d3
            replace d4 := (hup.cells.1 b' _ hb').trans d4
            replace d5 := (hup.cells.1 b' _ hb').trans d5
            replace d6 := (hup.cells.1 b' _ hb').trans d6
            have hz := hup.size
            obtain ⟨t, ht⟩ : ∃ t, decide ((⟨kk, (x0, y0), (x1, y1), (x2, y2)⟩ : Seg) = ⟨kk', (x0', y0'), (x1', y1'), (x2', y2')⟩) = t := ⟨_, rfl⟩
            have hq := run_eqSeg kk x0 y0 x1 y1 x2 y2 kk' x0' y0' x1' y1' x2' y2'
            rw [ht] at hq
            cases t
            · have HQ := Lib.hid (show decide (l = m) = false by
                rw [decide_eq_false_iff_not]
                rintro rfl
                rw [hg] at hg'
                rw [decide_eq_false_iff_not] at ht
                exact ht (Option.some.inj hg'))
              clear hg hg' ht
              go_wp2
              go_region
              go_wp2
              all_goals go_ret
              all_goals exact ⟨by rw [HQ.out]; rfl, by (repeat' (first | (with_reducible first | exact Up.refl _ | assumption | refine Up.alloc ?_ _ | refine Up.drew ?_ | refine Up.drewN ?_ _ | refine Up.setCell ?_ ?_ _ | refine Up.call ?_ (by assumption)) | go_size))⟩
            · have HQ := Lib.hid (show l.take (k + 1) = m.take (k + 1) from take_eq_step HN.out hg (by rw [hg', ← of_decide_eq_true ht]))
              clear hg hg' ht
              go_wp2
              go_region
              go_wp2
              all_goals go_roundw
              case rel => exact ⟨k + 1, by omega, by go_num, HQ.out, by (repeat' (first | (with_reducible first | exact Up.refl _ | assumption | refine Up.alloc ?_ _ | refine Up.drew ?_ | refine Up.drewN ?_ _ | refine Up.setCell ?_ ?_ _ | refine Up.call ?_ (by assumption)) | go_size))⟩
              case measure => simp [intOf]; omega
          · have HQ := Lib.hid (show decide (l = m) = true by
              have := HN.out
              have hl2 := HL.out
              rw [List.take_of_length_le (by omega), List.take_of_length_le (by omega)] at this
              exact decide_eq_true this)
            go_wp2
            go_ret
            exact ⟨by rw [HQ.out]; rfl, by (repeat' (first | (with_reducible first | exact Up.refl _ | assumption | refine Up.alloc ?_ _ | refine Up.drew ?_ | refine Up.drewN ?_ _ | refine Up.setCell ?_ ?_ _ | refine Up.call ?_ (by assumption)) | go_size))⟩
  · have HQ := Lib.hid (show decide (l = m) = false by
      rw [decide_eq_false_iff_not]
      rintro rfl
      exact hlen rfl)
    have dl : ((l.length : Int) != (m.length : Int)) = true := by
      rw [bne_iff_ne]
      intro e
      exact hlen (by omega)
    clear hlen
    obtain ⟨a, cap, rfl⟩ : ∃ a cap, v1 = .slice a l.length cap := by
      rcases h with ⟨a, cap, rfl, rfl⟩ | ⟨b, o, cap, rfl, _⟩
      · exact ⟨a, cap, rfl⟩
      · exact ⟨_, cap, rfl⟩
    obtain ⟨a', cap', rfl⟩ : ∃ a cap, v2 = .slice a m.length cap := by
      rcases h' with ⟨a, cap, rfl, rfl⟩ | ⟨b, o, cap, rfl, _⟩
      · exact ⟨a, cap, rfl⟩
      · exact ⟨_, cap, rfl⟩
    clear h h'
    go_enter Tryz.func56, Tryz.ntmps56
    go_wp2
    go_ret
    exact ⟨by rw [HQ.out]; rfl, by (repeat' (first | (with_reducible first | exact Up.refl _ | assumption | refine Up.alloc ?_ _ | refine Up.drew ?_ | refine Up.drewN ?_ _ | refine Up.setCell ?_ ?_ _ | refine Up.call ?_ (by assumption)) | go_size))⟩

end Go.Proofs.YtpellcdggaeppaaGreatDoor.Path
