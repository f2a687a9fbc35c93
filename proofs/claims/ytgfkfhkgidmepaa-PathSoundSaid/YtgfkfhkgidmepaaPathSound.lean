/- PathSound: for every list of segments the law returns true. No condition. -/
import Derived.Test.YtgfkfhkgidmepaaPathL
namespace Go.Proofs.Ytgfkfhkgidmepaa.pathSound
open Go.ChangeShapes Go.WideShapes Go.ChangeAt Go.RowKit
open Go.Proofs.Ytgfkfhkgidmepaa.PathM Go.Proofs.Ytgfkfhkgidmepaa.Path
set_option linter.unusedVariables false
set_option linter.unusedSimpArgs false

set_option maxRecDepth 8000 in
set_option maxHeartbeats 4000000 in
theorem walk {w : World} (a : Option Addr) (len cap : Nat) (l : List Seg) (g0 : SegIs w a len cap l) :
    Calls Try.prog 5 #[.slice a len cap] w fun e w' => e = .returned (.bool true) ∧ Up w w' := by
  obtain ⟨-, hcap, hlen, hnil, -, hat⟩ := g0
  subst hlen
  by_cases h6 : 6000 < l.length
  · clear hat
    go_enter Try.func5, Try.ntmps5
    go_wp2_with (go_at_call 9; ((with_reducible refine (answers_calls _).mono ?_); rintro E w1 ⟨rfl, hu1⟩))
    go_ret
    exact ⟨rfl, by (repeat' (first | (with_reducible exact Up.refl _) | (with_reducible assumption) | (with_reducible refine Up.alloc ?_ _) | (with_reducible refine Up.drew ?_) | (with_reducible refine Up.drewN ?_ _) | (with_reducible refine Up.setCell ?_ ?_ _) | (with_reducible refine Up.call ?_ (by with_reducible assumption)) | go_size))⟩
  obtain ⟨i0, ji, jz0, jz1, jz2⟩ := info_parts infoSeg
  by_cases h0 : l.length = 0
  · obtain rfl := List.eq_nil_of_length_eq_zero h0
    clear hat
    have HT := Lib.hid (show sound [] = true from rfl)
    have HN : Hid (∀ w a cap, SegV w (.slice a 0 cap) []) := Lib.hid (fun w a cap => Or.inl ⟨a, cap, rfl, rfl⟩)
    rcases a with _ | ad
    · go_enter Try.func5, Try.ntmps5
      go_wp2_with (first
        | (go_at_call 9; ((with_reducible refine (answers_calls _).mono ?_); rintro E w1 ⟨rfl, hu1⟩; have hz1 := hu1.size))
        | (go_at_call 19; ((with_reducible refine (sound_calls _ [] _ (HN.out _ _ _)).mono ?_); rintro E w2 ⟨rfl, hu2⟩; rw [HT.out]; have HU2 := Lib.hid (show Up w w2 by (repeat' (first | (with_reducible exact Up.refl _) | (with_reducible assumption) | (with_reducible refine Up.alloc ?_ _) | (with_reducible refine Up.drew ?_) | (with_reducible refine Up.drewN ?_ _) | (with_reducible refine Up.setCell ?_ ?_ _) | (with_reducible refine Up.call ?_ (by with_reducible assumption)) | go_size)))))
        | (go_at_call 16; ((with_reducible refine (soundPath_calls _ [] _ (HN.out _ _ _)).mono ?_); rintro E w3 ⟨rfl, hu3⟩; rw [HT.out]; have HU3 := Lib.hid (Up.call HU2.out hu3)))
        | (go_at_call 20; ((with_reducible refine (new_calls _ _).mono ?_); rintro E w4 ⟨rfl, hu4, hp4⟩; have HU4 := Lib.hid (Up.call HU3.out hu4); have HP4 := Lib.hid hp4; clear hp4)))
      refine wp_loop_rounds 1 ?_
      repeat any_goals (rw [rounds_succ]; go_wp2_with (first
        | (go_at_call 14; ((with_reducible refine (segments_calls w3.heap.size _ _ _ HP4.out).mono ?_); rintro E w6 ⟨v6, rfl, h6, hu6, ho6⟩; have HS6 := Lib.hid h6; have HU6 := Lib.hid (Up.call HU4.out hu6); clear h6 ho6))
        | (go_at_call 21; ((with_reducible refine (same_calls v6 _ [] [] _ HS6.out.v (HN.out _ _ _)).mono ?_); rintro E w7 ⟨rfl, hu7⟩; rw [show decide (([] : List Seg) = []) = true from rfl]; have HU7 := Lib.hid (Up.call HU6.out hu7)))))
      go_ret
      exact ⟨rfl, HU7.out⟩
    · go_enter Try.func5, Try.ntmps5
      go_wp2_with (first
        | (go_at_call 9; ((with_reducible refine (answers_calls _).mono ?_); rintro E w1 ⟨rfl, hu1⟩; have hz1 := hu1.size))
        | (go_at_call 19; ((with_reducible refine (sound_calls _ [] _ (HN.out _ _ _)).mono ?_); rintro E w2 ⟨rfl, hu2⟩; rw [HT.out]; have HU2 := Lib.hid (show Up w w2 by (repeat' (first | (with_reducible exact Up.refl _) | (with_reducible assumption) | (with_reducible refine Up.alloc ?_ _) | (with_reducible refine Up.drew ?_) | (with_reducible refine Up.drewN ?_ _) | (with_reducible refine Up.setCell ?_ ?_ _) | (with_reducible refine Up.call ?_ (by with_reducible assumption)) | go_size)))))
        | (go_at_call 16; ((with_reducible refine (soundPath_calls _ [] _ (HN.out _ _ _)).mono ?_); rintro E w3 ⟨rfl, hu3⟩; rw [HT.out]; have HU3 := Lib.hid (Up.call HU2.out hu3)))
        | (go_at_call 20; ((with_reducible refine (new_calls _ _).mono ?_); rintro E w4 ⟨rfl, hu4, hp4⟩; have HU4 := Lib.hid (Up.call HU3.out hu4); have HP4 := Lib.hid hp4; clear hp4)))
      refine wp_loop_rounds 1 ?_
      repeat any_goals (rw [rounds_succ]; go_wp2_with (first
        | (go_at_call 14; ((with_reducible refine (segments_calls w3.heap.size _ _ _ HP4.out).mono ?_); rintro E w6 ⟨v6, rfl, h6, hu6, ho6⟩; have HS6 := Lib.hid h6; have HU6 := Lib.hid (Up.call HU4.out hu6); clear h6 ho6))
        | (go_at_call 21; ((with_reducible refine (same_calls v6 _ [] [] _ HS6.out.v (HN.out _ _ _)).mono ?_); rintro E w7 ⟨rfl, hu7⟩; rw [show decide (([] : List Seg) = []) = true from rfl]; have HU7 := Lib.hid (Up.call HU6.out hu7)))))
      go_ret
      exact ⟨rfl, HU7.out⟩
  obtain ⟨b, o, rfl, hb, hat⟩ := hat (by omega)
  have HAT := Lib.hid (show SegAt w b o l from hat)
  have HV := Lib.hid (show SegV w (.slice (some ⟨b, o, none⟩) l.length cap) l from Or.inr ⟨b, o, cap, rfl, by omega, hb, hat, by omega⟩)
  clear hat hnil
  obtain ⟨t, ht⟩ : ∃ t, sound l = t := ⟨_, rfl⟩
  have HT := Lib.hid ht
  clear ht
  cases t
  · go_enter Try.func5, Try.ntmps5
    go_wp2_with (first
      | (go_at_call 9; ((with_reducible refine (answers_calls _).mono ?_); rintro E w1 ⟨rfl, hu1⟩; have hz1 := hu1.size))
      | (at_builtin; refine wpList_append_own_at _ rfl _ _ 32 rfl 0 43 i0 _ 7 56 Try.underlying32 ji jz0 jz1 jz2 rfl (by decide) (.slice (some ⟨w1.heap.size, 0, none⟩) 0 0) 0 [] rfl (World.ownsRow_made w1 #[] 0 (Nat.zero_le _) (by decide) rfl) ⟨b, o, none⟩ l.length cap (segCells l) rfl (segCells_length l) (fun j u hu => by rw [add_plain]; exact ((show Up w _ by (repeat' (first | (with_reducible exact Up.refl _) | (with_reducible assumption) | (with_reducible refine Up.alloc ?_ _) | (with_reducible refine Up.drew ?_) | (with_reducible refine Up.drewN ?_ _) | (with_reducible refine Up.setCell ?_ ?_ _) | (with_reducible refine Up.call ?_ (by with_reducible assumption)) | go_size))).cells.1 b _ hb).trans (HAT.out.cells j u hu)) (segCells_one l) (by unfold maxLen; omega) (by omega) (Nat.zero_le _) ?_; intro va wa hown hgr hnil hat; have HO := Lib.hid (show Segs wa va l from (by have := hown; rw [Nat.zero_add, List.nil_append] at this; exact this)); have HUA := Lib.hid (show Up w wa from grown_up (by (repeat' (first | (with_reducible exact Up.refl _) | (with_reducible assumption) | (with_reducible refine Up.alloc ?_ _) | (with_reducible refine Up.drew ?_) | (with_reducible refine Up.drewN ?_ _) | (with_reducible refine Up.setCell ?_ ?_ _) | (with_reducible refine Up.call ?_ (by with_reducible assumption)) | go_size))) hgr (fun k hk => by simp only [Value.ownBlock, Option.some.injEq] at hk; (have := (show Up w w1 by (repeat' (first | (with_reducible exact Up.refl _) | (with_reducible assumption) | (with_reducible refine Up.alloc ?_ _) | (with_reducible refine Up.drew ?_) | (with_reducible refine Up.drewN ?_ _) | (with_reducible refine Up.setCell ?_ ?_ _) | (with_reducible refine Up.call ?_ (by with_reducible assumption)) | go_size))).size); omega)); have HA := Lib.hid (show ∀ g, va.ownBlock = some g → w.heap.size ≤ g from fun g hg => (by have hsz := (show Up w w1 by (repeat' (first | (with_reducible exact Up.refl _) | (with_reducible assumption) | (with_reducible refine Up.alloc ?_ _) | (with_reducible refine Up.drew ?_) | (with_reducible refine Up.drewN ?_ _) | (with_reducible refine Up.setCell ?_ ?_ _) | (with_reducible refine Up.call ?_ (by with_reducible assumption)) | go_size))).size; rcases hat with h1 | h1; (rw [h1] at hg; simp only [Value.ownBlock, Option.some.injEq] at hg; omega); (rw [h1] at hg; simp at hg; omega))); clear hown hgr hnil hat)
      | (go_at_call 19; ((with_reducible refine (sound_calls va l _ HO.out.v).mono ?_); rintro E w2 ⟨rfl, hu2⟩; rw [HT.out]; have HU2 := Lib.hid (Up.call HUA.out hu2)))
      | (go_at_call 16; ((with_reducible refine (soundPath_calls _ l _ (HV.out.up HU2.out)).mono ?_); rintro E w3 ⟨rfl, hu3⟩; rw [HT.out]; have HU3 := Lib.hid (Up.call HU2.out hu3)))
      | (go_at_call 17; ((with_reducible refine (box_bad _ l _ (HV.out.up HU3.out) HT.out).mono ?_); rintro E w4 ⟨rfl, hu4⟩; have HU4 := Lib.hid (Up.call HU3.out hu4))))
    go_ret
    exact ⟨rfl, by have h4 := HU4.out; (repeat' (first | (with_reducible exact Up.refl _) | (with_reducible assumption) | (with_reducible refine Up.alloc ?_ _) | (with_reducible refine Up.drew ?_) | (with_reducible refine Up.drewN ?_ _) | (with_reducible refine Up.setCell ?_ ?_ _) | (with_reducible refine Up.call ?_ (by with_reducible assumption)) | go_size))⟩
  · go_enter Try.func5, Try.ntmps5
    go_wp2_with (first
      | (go_at_call 9; ((with_reducible refine (answers_calls _).mono ?_); rintro E w1 ⟨rfl, hu1⟩; have hz1 := hu1.size))
      | (at_builtin; refine wpList_append_own_at _ rfl _ _ 32 rfl 0 43 i0 _ 7 56 Try.underlying32 ji jz0 jz1 jz2 rfl (by decide) (.slice (some ⟨w1.heap.size, 0, none⟩) 0 0) 0 [] rfl (World.ownsRow_made w1 #[] 0 (Nat.zero_le _) (by decide) rfl) ⟨b, o, none⟩ l.length cap (segCells l) rfl (segCells_length l) (fun j u hu => by rw [add_plain]; exact ((show Up w _ by (repeat' (first | (with_reducible exact Up.refl _) | (with_reducible assumption) | (with_reducible refine Up.alloc ?_ _) | (with_reducible refine Up.drew ?_) | (with_reducible refine Up.drewN ?_ _) | (with_reducible refine Up.setCell ?_ ?_ _) | (with_reducible refine Up.call ?_ (by with_reducible assumption)) | go_size))).cells.1 b _ hb).trans (HAT.out.cells j u hu)) (segCells_one l) (by unfold maxLen; omega) (by omega) (Nat.zero_le _) ?_; intro va wa hown hgr hnil hat; have HO := Lib.hid (show Segs wa va l from (by have := hown; rw [Nat.zero_add, List.nil_append] at this; exact this)); have HUA := Lib.hid (show Up w wa from grown_up (by (repeat' (first | (with_reducible exact Up.refl _) | (with_reducible assumption) | (with_reducible refine Up.alloc ?_ _) | (with_reducible refine Up.drew ?_) | (with_reducible refine Up.drewN ?_ _) | (with_reducible refine Up.setCell ?_ ?_ _) | (with_reducible refine Up.call ?_ (by with_reducible assumption)) | go_size))) hgr (fun k hk => by simp only [Value.ownBlock, Option.some.injEq] at hk; (have := (show Up w w1 by (repeat' (first | (with_reducible exact Up.refl _) | (with_reducible assumption) | (with_reducible refine Up.alloc ?_ _) | (with_reducible refine Up.drew ?_) | (with_reducible refine Up.drewN ?_ _) | (with_reducible refine Up.setCell ?_ ?_ _) | (with_reducible refine Up.call ?_ (by with_reducible assumption)) | go_size))).size); omega)); have HA := Lib.hid (show ∀ g, va.ownBlock = some g → w.heap.size ≤ g from fun g hg => (by have hsz := (show Up w w1 by (repeat' (first | (with_reducible exact Up.refl _) | (with_reducible assumption) | (with_reducible refine Up.alloc ?_ _) | (with_reducible refine Up.drew ?_) | (with_reducible refine Up.drewN ?_ _) | (with_reducible refine Up.setCell ?_ ?_ _) | (with_reducible refine Up.call ?_ (by with_reducible assumption)) | go_size))).size; rcases hat with h1 | h1; (rw [h1] at hg; simp only [Value.ownBlock, Option.some.injEq] at hg; omega); (rw [h1] at hg; simp at hg; omega))); clear hown hgr hnil hat)
      | (go_at_call 19; ((with_reducible refine (sound_calls va l _ HO.out.v).mono ?_); rintro E w2 ⟨rfl, hu2⟩; rw [HT.out]; have HU2 := Lib.hid (Up.call HUA.out hu2)))
      | (go_at_call 16; ((with_reducible refine (soundPath_calls _ l _ (HV.out.up HU2.out)).mono ?_); rintro E w3 ⟨rfl, hu3⟩; rw [HT.out]; have HU3 := Lib.hid (Up.call HU2.out hu3)))
      | (go_at_call 20; ((with_reducible refine (new_calls _ _).mono ?_); rintro E w4 ⟨rfl, hu4, hp4⟩; have HU4 := Lib.hid (Up.call HU3.out hu4); have HP4 := Lib.hid hp4; clear hp4)))
    have hz3 := HU3.out.size
    obtain ⟨g, hg⟩ : ∃ g, g = w3.heap.size := ⟨_, rfl⟩
    have HP4 := Lib.hid (show PathIs w4 g (.slice none 0 0) ⟨l.length, [], Z, Z⟩ from by rw [hg]; exact HP4.out)
    have hgw : w.heap.size ≤ g := by omega
    rw [← hg]
    clear hg
    go_loopw [8] (fun i wr => ∃ (k : Nat) (v : Value) (s0 n0 : Pt), k ≤ l.length ∧ i = .int .i64 k ∧ PathIs wr g v ⟨l.length, l.take k, s0, n0⟩ ∧ Up w wr ∧ (∀ x, v.ownBlock = some x → w.heap.size ≤ x)) (fun i _ => l.length - (intOf i).toNat)
    case atStart => exact ⟨0, _, _, _, Nat.zero_le _, rfl, HP4.out, HU4.out, fun x hx => by cases hx⟩
    case round =>
      obtain ⟨k, v, s0, n0, hk, rfl, hp, hup, hown⟩ := hrel
      have HOW := Lib.hid hown
      clear hown
      by_cases hlt : k < l.length
      · obtain ⟨kk, x0, y0, x1, y1, x2, y2, hsg⟩ : ∃ kk x0 y0 x1 y1 x2 y2, l[k]? = some ⟨kk, (x0, y0), (x1, y1), (x2, y2)⟩ := ⟨_, _, _, _, _, _, _, List.getElem?_eq_getElem hlt⟩
        obtain ⟨c0, c1, c2, c3, c4, c5, c6⟩ := HAT.out.seven k _ _ _ _ _ _ _ hsg
        replace c0 := (hup.cells.1 b _ hb).trans c0
        replace c1 := (hup.cells.1 b _ hb).trans c1
        replace c2 := (hup.cells.1 b _ hb).trans c2
        replace c3 := (hup.cells.1 b _ hb).trans c3
        replace c4 := (hup.cells.1 b _ hb).trans c4
        replace c5 := (hup.cells.1 b _ hb).trans c5
        replace c6 := (hup.cells.1 b _ hb).trans c6
        have hz := hup.size
        have HP := Lib.hid hp
        have htk := Lib.hid (show (l.take k).length + 2 ≤ 100000000 by simp; omega)
        have HD := Lib.hid (draw_step s0 n0 HT.out hsg)
        clear hp hsg
        rcases HD.out with ⟨e, hl1, hm⟩ | ⟨e, hm⟩ | ⟨e, hm⟩ | ⟨e, hm⟩
        · obtain rfl : kk = 1 := e
          have HM := Lib.hid hm
          clear HD hm
          go_wp2_with (go_at_call 10; ((with_reducible refine (move_other g v _ x0 y0 _ (HP.out.up (by (repeat' (first | (with_reducible exact Up.refl _) | (with_reducible assumption) | (with_reducible refine Up.alloc ?_ _) | (with_reducible refine Up.drew ?_) | (with_reducible refine Up.drewN ?_ _) | (with_reducible refine Up.setCell ?_ ?_ _) | (with_reducible refine Up.call ?_ (by with_reducible assumption)) | go_size)))) htk.out hl1).mono ?_); rintro E w5 ⟨rfl, v5, hp5, hc5, ho5⟩; rw [HM.out] at hp5 ⊢; have HP5 := Lib.hid hp5; have HC5 := Lib.hid hc5; have HO5 := Lib.hid ho5; clear hp5 hc5 ho5))
          go_roundw
          case rel =>
            refine ⟨k + 1, v5, _, _, by omega, by go_num, HP5.out, ?_, fun x hx => ?_⟩
            · exact ((Chg.of_up (S := []) (show Up w _ from by (repeat' (first | (with_reducible exact Up.refl _) | (with_reducible assumption) | (with_reducible refine Up.alloc ?_ _) | (with_reducible refine Up.drew ?_) | (with_reducible refine Up.drewN ?_ _) | (with_reducible refine Up.setCell ?_ ?_ _) | (with_reducible refine Up.call ?_ (by with_reducible assumption)) | go_size)))).call HC5.out (fun x hx => Or.inr (by
                rcases List.mem_cons.1 hx with e | e
                · omega
                · exact HOW.out x (own_of e)))).up
            · rcases HO5.out x hx with h1 | h1
              · exact HOW.out x h1
              · simp at h1; omega
          case measure => simp [intOf]; omega
        · obtain rfl : kk = 2 := e
          have HM := Lib.hid hm
          clear HD hm
          go_wp2_with (go_at_call 11; ((with_reducible refine (line_calls g v _ x0 y0 _ (HP.out.up (by (repeat' (first | (with_reducible exact Up.refl _) | (with_reducible assumption) | (with_reducible refine Up.alloc ?_ _) | (with_reducible refine Up.drew ?_) | (with_reducible refine Up.drewN ?_ _) | (with_reducible refine Up.setCell ?_ ?_ _) | (with_reducible refine Up.call ?_ (by with_reducible assumption)) | go_size)))) htk.out).mono ?_); rintro E w5 ⟨rfl, v5, hp5, hc5, ho5⟩; rw [HM.out] at hp5 ⊢; have HP5 := Lib.hid hp5; have HC5 := Lib.hid hc5; have HO5 := Lib.hid ho5; clear hp5 hc5 ho5))
          go_roundw
          case rel =>
            refine ⟨k + 1, v5, _, _, by omega, by go_num, HP5.out, ?_, fun x hx => ?_⟩
            · exact ((Chg.of_up (S := []) (show Up w _ from by (repeat' (first | (with_reducible exact Up.refl _) | (with_reducible assumption) | (with_reducible refine Up.alloc ?_ _) | (with_reducible refine Up.drew ?_) | (with_reducible refine Up.drewN ?_ _) | (with_reducible refine Up.setCell ?_ ?_ _) | (with_reducible refine Up.call ?_ (by with_reducible assumption)) | go_size)))).call HC5.out (fun x hx => Or.inr (by
                rcases List.mem_cons.1 hx with e | e
                · omega
                · exact HOW.out x (own_of e)))).up
            · rcases HO5.out x hx with h1 | h1
              · exact HOW.out x h1
              · simp at h1; omega
          case measure => simp [intOf]; omega
        · obtain rfl : kk = 3 := e
          have HM := Lib.hid hm
          clear HD hm
          go_wp2_with (go_at_call 12; ((with_reducible refine (curve_calls g v _ x0 y0 x1 y1 x2 y2 _ (HP.out.up (by (repeat' (first | (with_reducible exact Up.refl _) | (with_reducible assumption) | (with_reducible refine Up.alloc ?_ _) | (with_reducible refine Up.drew ?_) | (with_reducible refine Up.drewN ?_ _) | (with_reducible refine Up.setCell ?_ ?_ _) | (with_reducible refine Up.call ?_ (by with_reducible assumption)) | go_size)))) htk.out).mono ?_); rintro E w5 ⟨rfl, v5, hp5, hc5, ho5⟩; rw [HM.out] at hp5 ⊢; have HP5 := Lib.hid hp5; have HC5 := Lib.hid hc5; have HO5 := Lib.hid ho5; clear hp5 hc5 ho5))
          go_roundw
          case rel =>
            refine ⟨k + 1, v5, _, _, by omega, by go_num, HP5.out, ?_, fun x hx => ?_⟩
            · exact ((Chg.of_up (S := []) (show Up w _ from by (repeat' (first | (with_reducible exact Up.refl _) | (with_reducible assumption) | (with_reducible refine Up.alloc ?_ _) | (with_reducible refine Up.drew ?_) | (with_reducible refine Up.drewN ?_ _) | (with_reducible refine Up.setCell ?_ ?_ _) | (with_reducible refine Up.call ?_ (by with_reducible assumption)) | go_size)))).call HC5.out (fun x hx => Or.inr (by
                rcases List.mem_cons.1 hx with e | e
                · omega
                · exact HOW.out x (own_of e)))).up
            · rcases HO5.out x hx with h1 | h1
              · exact HOW.out x h1
              · simp at h1; omega
          case measure => simp [intOf]; omega
        · obtain rfl : kk = 4 := e
          have HM := Lib.hid hm
          clear HD hm
          go_wp2_with (go_at_call 13; ((with_reducible refine (close_calls g v _  _ (HP.out.up (by (repeat' (first | (with_reducible exact Up.refl _) | (with_reducible assumption) | (with_reducible refine Up.alloc ?_ _) | (with_reducible refine Up.drew ?_) | (with_reducible refine Up.drewN ?_ _) | (with_reducible refine Up.setCell ?_ ?_ _) | (with_reducible refine Up.call ?_ (by with_reducible assumption)) | go_size)))) htk.out).mono ?_); rintro E w5 ⟨rfl, v5, hp5, hc5, ho5⟩; rw [HM.out] at hp5 ⊢; have HP5 := Lib.hid hp5; have HC5 := Lib.hid hc5; have HO5 := Lib.hid ho5; clear hp5 hc5 ho5))
          go_roundw
          case rel =>
            refine ⟨k + 1, v5, _, _, by omega, by go_num, HP5.out, ?_, fun x hx => ?_⟩
            · exact ((Chg.of_up (S := []) (show Up w _ from by (repeat' (first | (with_reducible exact Up.refl _) | (with_reducible assumption) | (with_reducible refine Up.alloc ?_ _) | (with_reducible refine Up.drew ?_) | (with_reducible refine Up.drewN ?_ _) | (with_reducible refine Up.setCell ?_ ?_ _) | (with_reducible refine Up.call ?_ (by with_reducible assumption)) | go_size)))).call HC5.out (fun x hx => Or.inr (by
                rcases List.mem_cons.1 hx with e | e
                · omega
                · exact HOW.out x (own_of e)))).up
            · rcases HO5.out x hx with h1 | h1
              · exact HOW.out x h1
              · simp at h1; omega
          case measure => simp [intOf]; omega
      · have hp' : PathIs wr g v ⟨l.length, l, s0, n0⟩ := by rwa [List.take_of_length_le (by omega)] at hp
        have HP := Lib.hid hp'
        clear hp hp'
        go_wp2_with (first
          | (go_at_call 14; ((with_reducible refine (segments_calls g v _ _ HP.out).mono ?_); rintro E w6 ⟨v6, rfl, h6, hu6, ho6⟩; have HS6 := Lib.hid h6; have HU6 := Lib.hid (Up.call hup hu6); clear h6 ho6))
          | (go_at_call 21; ((with_reducible refine (same_calls v6 _ l l _ HS6.out.v (HV.out.up HU6.out)).mono ?_); rintro E w7 ⟨rfl, hu7⟩; rw [show decide (l = l) = true from decide_eq_true rfl]; have HU7 := Lib.hid (Up.call HU6.out hu7))))
        go_ret
        exact ⟨rfl, HU7.out⟩

theorem own : ownKnob Try.prog.godebug = none := by kernel_rfl
theorem laidOut : laidOutB Try.prog = true := by kernel_rfl
set_option maxRecDepth 100000 in
theorem lifted (os : Os) (started : os.Started) (H : Type) (enc : TypeId × Value → H) :
    ReturnsInHanded {} Try.checked os 5 .any (Rows.pathSoundSpec.pre6 enc Try.prog Try.f5 Rows.pathSoundRow.domain false) (Rows.pathSoundSpec.post enc Try.prog Try.f5 false true false false) := by
  refine returnsInHanded_of_change (C := Try.checked) own started (by kernel_rfl) Try.func5
    (ChangeSpec.witness6 (enc := enc) (C := Try.checked) false ⟨#[], #[.slice none 0 0], []⟩ 8 (by kernel_rfl) (by kernel_rfl) (by kernel_rfl) (by kernel_rfl)) ?_
  intro W base args ds gs before hval0 hW hcnd _
  have hval : ∀ (j : Nat) t v, Try.f5.params[j]? = some t → args[j]? = some v → Value.okWide Try.prog W .any base t v := hval0
  have hW' := hW
  obtain ⟨p, q, hA0, hV, rfl, hfz, hnd⟩ := hW
  have hA : DataW.TrodAll enc Try.prog W 0 (fun _ => true) true Try.f5.params.toList args.toList ds p := hA0
  rw [Try.params5] at hA hval
  obtain ⟨v0, vs0, d0, ds0, p0, q0, hargs, rfl, rfl, h0, r0⟩ := trodAll_cons hA
  obtain ⟨rfl, rfl, rfl⟩ := trodAll_nil r0
  obtain rfl : args = #[v0] := by cases args; simp_all
  obtain ⟨rfl, rfl⟩ := trodVars_none hV
  have k0 := h0
  have lt0 : ∀ x ∈ p0, x.block < W.heap.size := by obtain ⟨m, hm⟩ := k0; exact DataW.trod_lt m _ _ _ hm
  obtain ⟨a0, len0, cap0, rfl⟩ := okWide_slice Try.underlying32 (hval 0 32 v0 rfl rfl)
  obtain ⟨l0, g0⟩ := segIs_of h0
  clear hA0 hval0
  refine (walk (w := W) a0 len0 cap0 l0 g0 ).mono fun e W' ⟨he, bel⟩ => ?_
  subst he
  exact ⟨_, rfl, _, _, _, [], _, [], hW', trodAll_mk1 (shut_bool Try.underlying4 _), (trodAll_cons_mk (Below.trod laidOut (by kernel_rfl) (of_decide_eq_true (by kernel_rfl)) k0 bel lt0) trodAll_mk0), rfl, bel.frame _, fun h => by cases h⟩

theorem over : Rows.pathSoundRow.holds Try.pinned (OpenSpec.ofChange Rows.pathSoundSpec) :=
  OpenClaim.holds_of_wide 5 Try.f5 rfl rfl rfl rfl rfl rfl rfl ⟨rfl, rfl, rfl, rfl, rfl⟩ rfl rfl rfl rfl rfl (by kernel_rfl) Try.func5 (by kernel_rfl)
    (of_decide_eq_true (by kernel_rfl)) (by unfold Func.isWrapper; first | (rw [if_pos (by decide +kernel)]; kernel_rfl) | (rw [if_neg (by decide +kernel)]; exact ⟨rfl, rfl⟩))
    (fun os started H enc _ => lifted os started H enc)

/-- THE STATEMENT -/
theorem proved : Rows.PathSoundSaid := over
#print axioms proved
end Go.Proofs.Ytgfkfhkgidmepaa.pathSound
