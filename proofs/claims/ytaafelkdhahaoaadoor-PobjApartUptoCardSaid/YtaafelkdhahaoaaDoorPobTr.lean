/- The reference's Text. Its condition: a length. -/
import Derived.Test.YtaafelkdhahaoaaDoorPobTx
import Derived.Test.YtaafelkdhahaoaaDoorPobB
namespace Go.Proofs.YtaafelkdhahaoaaDoor.Pob
open Go.ChangeShapes Go.WideShapes Go.RowKit Go.Shelf
set_option linter.unusedVariables false
set_option linter.unusedSimpArgs false

set_option maxRecDepth 8000 in
set_option maxHeartbeats 4000000 in
theorem rText_calls (l : List UInt8) (hl : l.length ≤ 70000) (w : World) : Calls Tryd.prog 23 #[.string ⟨l.toArray⟩] w fun e w' => e = .returned (.string ⟨(40 :: (txt l ++ [41])).toArray⟩) ∧ Up w w' := by
  obtain ⟨i0, hi, hz0, hz1, hz2⟩ := info_parts u8_info
  have IX := Lib.hid (fun (W : World) (j : Nat) (hj : j < l.length) => run_index_list (P := Tryd.prog) W 9 l .i64 j Tryd.underlying9 hj)
  obtain ⟨T, hT⟩ : ∃ T : List UInt8, (40 :: (txt l ++ [41])) = T := ⟨_, rfl⟩
  rw [hT]
  have HT := Lib.hid hT
  clear hT
  go_enter Tryd.func23, Tryd.ntmps23
  go_wp2
  go_loopw [3, 4] (fun s3 s4 wr => ∃ (k : Nat) (v : Value) (n : Nat), k ≤ l.length ∧ s3 = v ∧ s4 = .int .i64 k ∧ Hid (wr.ownsRow w.heap.size 5 1 v n (Lib.byteCells (40 :: txt (l.take k)))) ∧ Hid (n = (40 :: txt (l.take k)).length) ∧ Hid (Up w wr)) (fun _ s4 _ => l.length - (intOf s4).toNat)
  case atStart => exact ⟨0, _, 1, Nat.zero_le _, rfl, rfl, Lib.hid ⟨rfl, Or.inr ⟨w.heap.size, 1, #[.int .u8 40], rfl, Nat.le_refl _, heap_alloc_new w _, by decide, by decide, rfl, by simp [Lib.byteCells, txt]⟩⟩, Lib.hid rfl, Lib.hid (by (repeat' (first | (with_reducible exact Up.refl _) | (with_reducible assumption) | (with_reducible refine Up.alloc ?_ _) | (with_reducible refine Up.drew ?_) | (with_reducible refine Up.drewN ?_ _) | (with_reducible refine Up.setCell ?_ ?_ _) | (with_reducible refine Up.call ?_ (by with_reducible assumption)) | go_size)))⟩
  case round =>
    obtain ⟨k, v, n, hk, rfl, rfl, HOWN, HN, HUP⟩ := hrel
    have hel := txt_len (l.take k)
    rw [List.length_take] at hel
    have nl : n ≤ 300000 := by rw [HN.out, List.length_cons]; omega
    clear hel
    by_cases hlt : k < l.length
    · have d0 : decide (k < l.length) = true := decide_eq_true hlt
      have ik := fun W => IX.out W k hlt
      obtain ⟨c, hc⟩ : ∃ c, l.getD k 0 = c := ⟨_, rfl⟩
      have HST := Lib.hid (show txt (l.take (k + 1)) = txt (l.take k) ++ txtB c by
        rw [List.take_add_one, List.getElem?_eq_getElem hlt]
        simp only [Option.toList_some, txt_snoc]
        simp [← hc, hlt])
      simp only [hc] at ik
      have hlc := c.toNat_lt
      clear hc
      by_cases hq : c = 40 ∨ c = 41 ∨ c = 92
      · have HB := Lib.hid (show txtB c = [92, c] by unfold txtB; rw [if_pos hq])
        have hp : ((c.toNat : Int) == 40) = true ∨ (((c.toNat : Int) == 40) = false ∧ ((c.toNat : Int) == 41) = true) ∨ (((c.toNat : Int) == 40) = false ∧ ((c.toNat : Int) == 41) = false ∧ ((c.toNat : Int) == 92) = true) := by
          rcases hq with rfl | rfl | rfl
          · exact Or.inl rfl
          · exact Or.inr (Or.inl ⟨rfl, rfl⟩)
          · exact Or.inr (Or.inr ⟨rfl, rfl, rfl⟩)
        clear hq
        rcases hp with p1 | ⟨p1, p2⟩ | ⟨p1, p2, p3⟩
        · go_wp2_with (at_builtin; refine wpList_append_own _ rfl _ _ 24 rfl w.heap.size 5 i0 (.int .u8 0) 1 1 Tryd.underlying24 hi hz0 hz1 hz2 rfl (by decide) _ _ _ rfl (HOWN.out.alloc _) ⟨wr.heap.size, 0, none⟩ 2 2 [.int .u8 92, .int .u8 (c.toNat : Int)] rfl rfl ?c1 ?c2 ?c3 ?c4 ?c5 ?_)
          case c1 => exact news_of (cs := #[.int .u8 92, .int .u8 (c.toNat : Int)]) (by (repeat' (first | (with_reducible assumption) | (with_reducible refine Row.at _ _ ?_; (simp; done)) | (with_reducible refine Row.alloc ?_ _) | (with_reducible refine Row.drew ?_) | (with_reducible refine Row.drewN ?_ _) | (with_reducible refine Row.other ?_ (by first | (simp; done) | (simp; omega) | omega) _) | (with_reducible refine Row.up ?_ (by with_reducible assumption)) | (with_reducible refine Row.chg ?_ (by with_reducible assumption) (by first | (simp; done) | (simp; omega))))))
          case c2 => simp [Value.oneCell']
          case c3 => unfold maxLen; omega
          case c4 => omega
          case c5 => have := HUP.out.size; simp; omega
          intro v2 w2 hown2 hgrow _
          have HU2 : Hid (Up w w2) := Lib.hid (grown_up (show Up w _ from Up.alloc HUP.out _) hgrow (fun k hk => (HOWN.out.lt k hk).1))
          have HO2 := Lib.hid hown2
          clear hown2 hgrow
          go_wp2
          go_roundw
          case rel =>
            refine ⟨k + 1, v2, n + 2, by omega, rfl, by go_num, Lib.hid ?_, Lib.hid ?_, HU2⟩
            · have e9 : Lib.byteCells (40 :: txt (l.take (k + 1))) = Lib.byteCells (40 :: txt (l.take k)) ++ [.int .u8 92, .int .u8 (c.toNat : Int)] := by
                rw [HST.out, HB.out]; simp [Lib.byteCells]
              rw [e9]; exact HO2.out
            · rw [HN.out, HST.out, HB.out]; simp; try omega
          case measure => simp [intOf]; omega
        · go_wp2_with (at_builtin; refine wpList_append_own _ rfl _ _ 24 rfl w.heap.size 5 i0 (.int .u8 0) 1 1 Tryd.underlying24 hi hz0 hz1 hz2 rfl (by decide) _ _ _ rfl (HOWN.out.alloc _) ⟨wr.heap.size, 0, none⟩ 2 2 [.int .u8 92, .int .u8 (c.toNat : Int)] rfl rfl ?c1 ?c2 ?c3 ?c4 ?c5 ?_)
          case c1 => exact news_of (cs := #[.int .u8 92, .int .u8 (c.toNat : Int)]) (by (repeat' (first | (with_reducible assumption) | (with_reducible refine Row.at _ _ ?_; (simp; done)) | (with_reducible refine Row.alloc ?_ _) | (with_reducible refine Row.drew ?_) | (with_reducible refine Row.drewN ?_ _) | (with_reducible refine Row.other ?_ (by first | (simp; done) | (simp; omega) | omega) _) | (with_reducible refine Row.up ?_ (by with_reducible assumption)) | (with_reducible refine Row.chg ?_ (by with_reducible assumption) (by first | (simp; done) | (simp; omega))))))
          case c2 => simp [Value.oneCell']
          case c3 => unfold maxLen; omega
          case c4 => omega
          case c5 => have := HUP.out.size; simp; omega
          intro v2 w2 hown2 hgrow _
          have HU2 : Hid (Up w w2) := Lib.hid (grown_up (show Up w _ from Up.alloc HUP.out _) hgrow (fun k hk => (HOWN.out.lt k hk).1))
          have HO2 := Lib.hid hown2
          clear hown2 hgrow
          go_wp2
          go_roundw
          case rel =>
            refine ⟨k + 1, v2, n + 2, by omega, rfl, by go_num, Lib.hid ?_, Lib.hid ?_, HU2⟩
            · have e9 : Lib.byteCells (40 :: txt (l.take (k + 1))) = Lib.byteCells (40 :: txt (l.take k)) ++ [.int .u8 92, .int .u8 (c.toNat : Int)] := by
                rw [HST.out, HB.out]; simp [Lib.byteCells]
              rw [e9]; exact HO2.out
            · rw [HN.out, HST.out, HB.out]; simp; try omega
          case measure => simp [intOf]; omega
        · go_wp2_with (at_builtin; refine wpList_append_own _ rfl _ _ 24 rfl w.heap.size 5 i0 (.int .u8 0) 1 1 Tryd.underlying24 hi hz0 hz1 hz2 rfl (by decide) _ _ _ rfl (HOWN.out.alloc _) ⟨wr.heap.size, 0, none⟩ 2 2 [.int .u8 92, .int .u8 (c.toNat : Int)] rfl rfl ?c1 ?c2 ?c3 ?c4 ?c5 ?_)
          case c1 => exact news_of (cs := #[.int .u8 92, .int .u8 (c.toNat : Int)]) (by (repeat' (first | (with_reducible assumption) | (with_reducible refine Row.at _ _ ?_; (simp; done)) | (with_reducible refine Row.alloc ?_ _) | (with_reducible refine Row.drew ?_) | (with_reducible refine Row.drewN ?_ _) | (with_reducible refine Row.other ?_ (by first | (simp; done) | (simp; omega) | omega) _) | (with_reducible refine Row.up ?_ (by with_reducible assumption)) | (with_reducible refine Row.chg ?_ (by with_reducible assumption) (by first | (simp; done) | (simp; omega))))))
          case c2 => simp [Value.oneCell']
          case c3 => unfold maxLen; omega
          case c4 => omega
          case c5 => have := HUP.out.size; simp; omega
          intro v2 w2 hown2 hgrow _
          have HU2 : Hid (Up w w2) := Lib.hid (grown_up (show Up w _ from Up.alloc HUP.out _) hgrow (fun k hk => (HOWN.out.lt k hk).1))
          have HO2 := Lib.hid hown2
          clear hown2 hgrow
          go_wp2
          go_roundw
          case rel =>
            refine ⟨k + 1, v2, n + 2, by omega, rfl, by go_num, Lib.hid ?_, Lib.hid ?_, HU2⟩
            · have e9 : Lib.byteCells (40 :: txt (l.take (k + 1))) = Lib.byteCells (40 :: txt (l.take k)) ++ [.int .u8 92, .int .u8 (c.toNat : Int)] := by
                rw [HST.out, HB.out]; simp [Lib.byteCells]
              rw [e9]; exact HO2.out
            · rw [HN.out, HST.out, HB.out]; simp; try omega
          case measure => simp [intOf]; omega
      · have n1 := ne_of (c := c) (k := 40) (z := 40) (fun h => hq (Or.inl h)) (by decide) rfl
        have n2 := ne_of (c := c) (k := 41) (z := 41) (fun h => hq (Or.inr (Or.inl h))) (by decide) rfl
        have n3 := ne_of (c := c) (k := 92) (z := 92) (fun h => hq (Or.inr (Or.inr h))) (by decide) rfl
        have HQ := Lib.hid hq
        clear hq
        by_cases ho : c.toNat < 32 ∨ 126 < c.toNat
        · have HB := Lib.hid (show txtB c = [92, UInt8.ofNat (48 + c.toNat / 64), UInt8.ofNat (48 + c.toNat / 8 % 8), UInt8.ofNat (48 + c.toNat % 8)] by unfold txtB; rw [if_neg HQ.out, if_pos ho])
          have hp : decide ((c.toNat : Int) < 32) = true ∨ (decide ((c.toNat : Int) < 32) = false ∧ decide (126 < (c.toNat : Int)) = true) := by
            by_cases h1 : c.toNat < 32
            · left; simp; omega
            · right; refine ⟨by simp; omega, by simp; omega⟩
          clear ho
          rcases hp with p1 | ⟨p1, p2⟩
          · go_wp2_with (at_builtin; refine wpList_append_own _ rfl _ _ 24 rfl w.heap.size 5 i0 (.int .u8 0) 1 1 Tryd.underlying24 hi hz0 hz1 hz2 rfl (by decide) _ _ _ rfl (HOWN.out.alloc _) ⟨wr.heap.size, 0, none⟩ 4 4 [.int .u8 92, .int .u8 (48 + (c.toNat : Int) / 64), .int .u8 (48 + (c.toNat : Int) / 8 % 8), .int .u8 (48 + (c.toNat : Int) % 8)] rfl rfl ?c1 ?c2 ?c3 ?c4 ?c5 ?_)
            case c1 => exact news_of (cs := #[.int .u8 92, .int .u8 (48 + (c.toNat : Int) / 64), .int .u8 (48 + (c.toNat : Int) / 8 % 8), .int .u8 (48 + (c.toNat : Int) % 8)]) (by (repeat' (first | (with_reducible assumption) | (with_reducible refine Row.at _ _ ?_; (simp; done)) | (with_reducible refine Row.alloc ?_ _) | (with_reducible refine Row.drew ?_) | (with_reducible refine Row.drewN ?_ _) | (with_reducible refine Row.other ?_ (by first | (simp; done) | (simp; omega) | omega) _) | (with_reducible refine Row.up ?_ (by with_reducible assumption)) | (with_reducible refine Row.chg ?_ (by with_reducible assumption) (by first | (simp; done) | (simp; omega))))))
            case c2 => simp [Value.oneCell']
            case c3 => unfold maxLen; omega
            case c4 => omega
            case c5 => have := HUP.out.size; simp; omega
            intro v2 w2 hown2 hgrow _
            have HU2 : Hid (Up w w2) := Lib.hid (grown_up (show Up w _ from Up.alloc HUP.out _) hgrow (fun k hk => (HOWN.out.lt k hk).1))
            have HO2 := Lib.hid hown2
            clear hown2 hgrow
            go_wp2
            go_roundw
            case rel =>
              refine ⟨k + 1, v2, n + 4, by omega, rfl, by go_num, Lib.hid ?_, Lib.hid ?_, HU2⟩
              · have e9 : Lib.byteCells (40 :: txt (l.take (k + 1))) = Lib.byteCells (40 :: txt (l.take k)) ++ [.int .u8 92, .int .u8 (48 + (c.toNat : Int) / 64), .int .u8 (48 + (c.toNat : Int) / 8 % 8), .int .u8 (48 + (c.toNat : Int) % 8)] := by
                  rw [HST.out, HB.out, show 40 :: (txt (l.take k) ++ [92, UInt8.ofNat (48 + c.toNat / 64), UInt8.ofNat (48 + c.toNat / 8 % 8), UInt8.ofNat (48 + c.toNat % 8)]) = (40 :: txt (l.take k)) ++ [92, UInt8.ofNat (48 + c.toNat / 64), UInt8.ofNat (48 + c.toNat / 8 % 8), UInt8.ofNat (48 + c.toNat % 8)] by simp, cells_app, cells4]
                rw [e9]; exact HO2.out
              · rw [HN.out, HST.out, HB.out]; simp; try omega
            case measure => simp [intOf]; omega
          · go_wp2_with (at_builtin; refine wpList_append_own _ rfl _ _ 24 rfl w.heap.size 5 i0 (.int .u8 0) 1 1 Tryd.underlying24 hi hz0 hz1 hz2 rfl (by decide) _ _ _ rfl (HOWN.out.alloc _) ⟨wr.heap.size, 0, none⟩ 4 4 [.int .u8 92, .int .u8 (48 + (c.toNat : Int) / 64), .int .u8 (48 + (c.toNat : Int) / 8 % 8), .int .u8 (48 + (c.toNat : Int) % 8)] rfl rfl ?c1 ?c2 ?c3 ?c4 ?c5 ?_)
            case c1 => exact news_of (cs := #[.int .u8 92, .int .u8 (48 + (c.toNat : Int) / 64), .int .u8 (48 + (c.toNat : Int) / 8 % 8), .int .u8 (48 + (c.toNat : Int) % 8)]) (by (repeat' (first | (with_reducible assumption) | (with_reducible refine Row.at _ _ ?_; (simp; done)) | (with_reducible refine Row.alloc ?_ _) | (with_reducible refine Row.drew ?_) | (with_reducible refine Row.drewN ?_ _) | (with_reducible refine Row.other ?_ (by first | (simp; done) | (simp; omega) | omega) _) | (with_reducible refine Row.up ?_ (by with_reducible assumption)) | (with_reducible refine Row.chg ?_ (by with_reducible assumption) (by first | (simp; done) | (simp; omega))))))
            case c2 => simp [Value.oneCell']
            case c3 => unfold maxLen; omega
            case c4 => omega
            case c5 => have := HUP.out.size; simp; omega
            intro v2 w2 hown2 hgrow _
            have HU2 : Hid (Up w w2) := Lib.hid (grown_up (show Up w _ from Up.alloc HUP.out _) hgrow (fun k hk => (HOWN.out.lt k hk).1))
            have HO2 := Lib.hid hown2
            clear hown2 hgrow
            go_wp2
            go_roundw
            case rel =>
              refine ⟨k + 1, v2, n + 4, by omega, rfl, by go_num, Lib.hid ?_, Lib.hid ?_, HU2⟩
              · have e9 : Lib.byteCells (40 :: txt (l.take (k + 1))) = Lib.byteCells (40 :: txt (l.take k)) ++ [.int .u8 92, .int .u8 (48 + (c.toNat : Int) / 64), .int .u8 (48 + (c.toNat : Int) / 8 % 8), .int .u8 (48 + (c.toNat : Int) % 8)] := by
                  rw [HST.out, HB.out, show 40 :: (txt (l.take k) ++ [92, UInt8.ofNat (48 + c.toNat / 64), UInt8.ofNat (48 + c.toNat / 8 % 8), UInt8.ofNat (48 + c.toNat % 8)]) = (40 :: txt (l.take k)) ++ [92, UInt8.ofNat (48 + c.toNat / 64), UInt8.ofNat (48 + c.toNat / 8 % 8), UInt8.ofNat (48 + c.toNat % 8)] by simp, cells_app, cells4]
                rw [e9]; exact HO2.out
              · rw [HN.out, HST.out, HB.out]; simp; try omega
            case measure => simp [intOf]; omega
        · have HB := Lib.hid (show txtB c = [c] by unfold txtB; rw [if_neg HQ.out, if_neg ho])
          have p1 : decide ((c.toNat : Int) < 32) = false := decide_eq_false (by omega)
          have p2 : decide (126 < (c.toNat : Int)) = false := decide_eq_false (by omega)
          clear ho
          go_wp2_with (at_builtin; refine wpList_append_own _ rfl _ _ 24 rfl w.heap.size 5 i0 (.int .u8 0) 1 1 Tryd.underlying24 hi hz0 hz1 hz2 rfl (by decide) _ _ _ rfl (HOWN.out.alloc _) ⟨wr.heap.size, 0, none⟩ 1 1 [.int .u8 (c.toNat : Int)] rfl rfl ?c1 ?c2 ?c3 ?c4 ?c5 ?_)
          case c1 => exact news_of (cs := #[.int .u8 (c.toNat : Int)]) (by (repeat' (first | (with_reducible assumption) | (with_reducible refine Row.at _ _ ?_; (simp; done)) | (with_reducible refine Row.alloc ?_ _) | (with_reducible refine Row.drew ?_) | (with_reducible refine Row.drewN ?_ _) | (with_reducible refine Row.other ?_ (by first | (simp; done) | (simp; omega) | omega) _) | (with_reducible refine Row.up ?_ (by with_reducible assumption)) | (with_reducible refine Row.chg ?_ (by with_reducible assumption) (by first | (simp; done) | (simp; omega))))))
          case c2 => simp [Value.oneCell']
          case c3 => unfold maxLen; omega
          case c4 => omega
          case c5 => have := HUP.out.size; simp; omega
          intro v2 w2 hown2 hgrow _
          have HU2 : Hid (Up w w2) := Lib.hid (grown_up (show Up w _ from Up.alloc HUP.out _) hgrow (fun k hk => (HOWN.out.lt k hk).1))
          have HO2 := Lib.hid hown2
          clear hown2 hgrow
          go_wp2
          go_roundw
          case rel =>
            refine ⟨k + 1, v2, n + 1, by omega, rfl, by go_num, Lib.hid ?_, Lib.hid ?_, HU2⟩
            · have e9 : Lib.byteCells (40 :: txt (l.take (k + 1))) = Lib.byteCells (40 :: txt (l.take k)) ++ [.int .u8 (c.toNat : Int)] := by
                rw [HST.out, HB.out]; simp [Lib.byteCells]
              rw [e9]; exact HO2.out
            · rw [HN.out, HST.out, HB.out]; simp; try omega
          case measure => simp [intOf]; omega
    · have d0 : decide (k < l.length) = false := decide_eq_false hlt
      obtain rfl : k = l.length := by omega
      go_wp2_with (at_builtin; refine wpList_append_own _ rfl _ _ 24 rfl w.heap.size 5 i0 (.int .u8 0) 1 1 Tryd.underlying24 hi hz0 hz1 hz2 rfl (by decide) _ _ _ rfl (HOWN.out.alloc _) ⟨wr.heap.size, 0, none⟩ 1 1 [.int .u8 41] rfl rfl ?c1 ?c2 ?c3 ?c4 ?c5 ?_)
      case c1 => exact news_of (cs := #[.int .u8 41]) (by (repeat' (first | (with_reducible assumption) | (with_reducible refine Row.at _ _ ?_; (simp; done)) | (with_reducible refine Row.alloc ?_ _) | (with_reducible refine Row.drew ?_) | (with_reducible refine Row.drewN ?_ _) | (with_reducible refine Row.other ?_ (by first | (simp; done) | (simp; omega) | omega) _) | (with_reducible refine Row.up ?_ (by with_reducible assumption)) | (with_reducible refine Row.chg ?_ (by with_reducible assumption) (by first | (simp; done) | (simp; omega))))))
      case c2 => simp [Value.oneCell']
      case c3 => unfold maxLen; omega
      case c4 => omega
      case c5 => have := HUP.out.size; simp; omega
      intro v2 w2 hown2 hgrow _
      have HU2 : Hid (Up w w2) := Lib.hid (grown_up (show Up w _ from Up.alloc HUP.out _) hgrow (fun k hk => (HOWN.out.lt k hk).1))
      have HO2 := Lib.hid hown2
      clear hown2 hgrow
      have h9 : w2.ownsRow w.heap.size 5 1 v2 (n + 1) (Lib.byteCells (40 :: (txt l ++ [41]))) := by
        have e9 : Lib.byteCells (40 :: (txt l ++ [41])) = Lib.byteCells (40 :: txt l) ++ [.int .u8 41] := by
          simp [Lib.byteCells]
        rw [e9]; exact HO2.out
      have hn9 : n + 1 = (40 :: (txt l ++ [41])).length := by rw [HN.out]; simp
      obtain ⟨g, cap, rfl, -, h1, h2, h3, h4, h5⟩ := owns_some h9 (fun e => by
        subst e
        rcases h9.2 with ⟨_, h0⟩ | ⟨g, cap, cur, h0, _⟩
        · omega
        · cases h0)
      have hB : BytesAt w2 (.slice (some ⟨g, 0, none⟩) (n + 1) cap) (40 :: (txt l ++ [41])) := ⟨⟨g, cap, by rw [← hn9], by omega, h2, h3, fun j hj => h5 j _ (byteCells_get _ j hj)⟩⟩
      have cv := BytesAt.conv hB
      rw [HT.out] at cv
      clear hB h4 h5 h9 hn9
      go_wp2
      go_ret
      exact ⟨rfl, HU2.out⟩

end Go.Proofs.YtaafelkdhahaoaaDoor.Pob
