/- ArithDoes: for every input the law returns true. Its card lists a package-level variable. No other condition. -/
import Derived.Test.YtakickodehebmaaDoorArP
import Derived.Lib.LaidTab
import Derived.Deep.DeepHandedRow
import Derived.Test.YtakickodehebmaaDoorTie
import Derived.Test.YtakickodehebmaaDoorCards
import Derived.Test.YtakickodehebmaaDoorArgs
import Derived.Deep.QuietTactic
import Derived.Deep.Cut
import Derived.Test.YtakickodehebmaaDoorArDoA
namespace Go.Proofs.YtakickodehebmaaDoor.arithDoes
open Go.ChangeShapes Go.WideShapes Go.ChangeAt Go.RowKit
open Go.Proofs.YtakickodehebmaaDoor.FixM (fits within)
open Go.Proofs.YtakickodehebmaaDoor.ArM
open Go.Proofs.YtakickodehebmaaDoor.Ar
set_option linter.unusedVariables false
set_option linter.unusedSimpArgs false

set_option maxRecDepth 100000 in
set_option maxHeartbeats 4000000 in
theorem law_ok0 (s : ByteArray) (hs : s.size ≤ 1000) (l : List ObjL) (N : Nat) (hN : l.length = N) (h1 : 0 < N) (h2 : N ≤ 2) (b o cap : Nat) {w : World} (hl : Sl 8 ObjL.cells w (some ⟨b, o, none⟩) N cap l) (hb : b < w.heap.size) (hT : Turn.Tab w)
    (hK : ∀ W, Calls Tryd.prog 7 #[.string s] W fun e w' => e = .returned (.tuple #[.int .i64 (N : Nat), .bool true]) ∧ W = w')
    (hC : ∀ W, Calls Tryd.prog 9 #[.string s] W fun e w' => e = .returned (.int .i64 (N : Nat)) ∧ W = w')
    (rk rn : Int)
    (hD : ∀ W g c, Turn.Tab W → Cs W g (l.flatMap ObjL.cells).toArray → g < W.heap.size → Calls Tryd.prog 10 #[.string s, .slice (some ⟨g, 0, none⟩) N c] W fun E w' => Gives W rk rn 0 E w' ∧ Up W w')
    (hA : ∀ W g c, Cs W g (l.flatMap vcells).toArray → g < W.heap.size → Calls Tryd.prog 12 #[.string s, .slice (some ⟨g, 0, none⟩) N c] W fun E w' => GivesR W rk rn 0 E w' ∧ Up W w') :
    Calls Tryd.prog 3 #[.string s, .slice (some ⟨b, o, none⟩) N cap] w fun e w' => e = .returned (.bool true) ∧ Up w w' := by
  obtain ⟨i0, ji, jz0, jz1, jz2⟩ := info_parts infoObj
  obtain ⟨i1, ki, kz0, kz1, kz2⟩ := info_parts infoVal
  have HN := Lib.hid hN
  have HL := Lib.hid hl
  have d4 : ((N : Int) == 0) = false := by simp; omega
  have HT := Lib.hid hT
  have HK := Lib.hid hK
  have HC := Lib.hid hC
  have HD := Lib.hid hD
  have HA := Lib.hid hA
  have hcap : cap ≤ 9223372036854775807 := hl.2.1
  have hlc : N ≤ cap := hl.1
  clear hl hT hK hC hD hA hN
  have d1 : decide (1000 < (s.size : Int)) = false := decide_eq_false (by omega)
  have d2 : decide (100 < (N : Int)) = false := decide_eq_false (by omega)
  have d3 : decide (0 < N) = true := decide_eq_true h1
  go_enter Tryd.func3, Tryd.ntmps3
  go_wp2_with (first
    | (go_at_call 7; ((with_reducible refine (HK.out _).mono ?_); rintro E w0 ⟨rfl, rfl⟩))
    | (go_at_call 8; ((with_reducible refine (answers_calls _).mono ?_); rintro E w1 ⟨rfl, hu1⟩))
    | (go_at_call 9; ((with_reducible refine (HC.out _).mono ?_); rintro E w0 ⟨rfl, rfl⟩))
    | (at_builtin; refine wpList_append_own_at _ rfl _ _ 22 rfl 0 38 i0 _ 8 72 Tryd.underlying22 ji jz0 jz1 jz2 rfl (by decide) (.slice (some ⟨w1.heap.size, 0, none⟩) 0 0) 0 [] rfl (World.ownsRow_made w1 #[] 0 (Nat.zero_le _) (by decide) rfl) ⟨b, o, none⟩ N cap (l.flatMap ObjL.cells) rfl (by rw [flat_length _ 8 (fun _ => rfl) l, HN.out]) (Sl.news (by decide) (fun _ => rfl) HL.out h1 (by (repeat' (first | (with_reducible exact Up.refl _) | (with_reducible assumption) | (with_reducible refine Up.alloc ?_ _) | (with_reducible refine Up.drew ?_) | (with_reducible refine Up.drewN ?_ _) | (with_reducible refine Up.setCell ?_ ?_ _) | (with_reducible refine Up.call ?_ (by with_reducible assumption)) | go_size)))) (cells_one l) (by unfold maxLen; omega) (by omega) (Nat.zero_le _) ?_; intro va wa hown hgr hnil hat; rw [Nat.zero_add, List.nil_append] at hown; have HO := Lib.hid hown; have HUA := Lib.hid (show Up w wa from grown_up (by (repeat' (first | (with_reducible exact Up.refl _) | (with_reducible assumption) | (with_reducible refine Up.alloc ?_ _) | (with_reducible refine Up.drew ?_) | (with_reducible refine Up.drewN ?_ _) | (with_reducible refine Up.setCell ?_ ?_ _) | (with_reducible refine Up.call ?_ (by with_reducible assumption)) | go_size))) hgr (fun k hk => by simp only [Value.ownBlock, Option.some.injEq] at hk; (have := (show Up w w1 by (repeat' (first | (with_reducible exact Up.refl _) | (with_reducible assumption) | (with_reducible refine Up.alloc ?_ _) | (with_reducible refine Up.drew ?_) | (with_reducible refine Up.drewN ?_ _) | (with_reducible refine Up.setCell ?_ ?_ _) | (with_reducible refine Up.call ?_ (by with_reducible assumption)) | go_size))).size); omega)); clear hown hgr hnil hat; refine Hid.out ?_))
  refine Lib.hid ?_
  rcases owned_form HO.out with ⟨_, h0⟩ | ⟨ga, ca, rfl, a1, a2, a3⟩
  · omega
  have hua := HUA.out
  have hcs : Cs wa ga (l.flatMap ObjL.cells).toArray := fun i u e => by
    have := HO.out.cells (g := ga) rfl i u (by simpa using e)
    rwa [add_plain, Nat.zero_add] at this
  have HCS := Lib.hid hcs
  clear hcs
  go_wp2_with (first
    | (go_at_call 10; ((with_reducible refine (HD.out _ ga ca (HT.out.up (by (repeat' (first | (with_reducible exact Up.refl _) | (with_reducible assumption) | (with_reducible refine Up.alloc ?_ _) | (with_reducible refine Up.drew ?_) | (with_reducible refine Up.drewN ?_ _) | (with_reducible refine Up.setCell ?_ ?_ _) | (with_reducible refine Up.call ?_ (by with_reducible assumption)) | go_size)))) HCS.out a3).mono ?_); rintro E w2 ⟨hg, hu2⟩; obtain ⟨b2, hb2, rfl, gb2⟩ := hg.ok; have GB := Lib.hid gb2; clear gb2 hg)))
  have U2 := Lib.hid (show Up w w2 by (repeat' (first | (with_reducible exact Up.refl _) | (with_reducible assumption) | (with_reducible refine Up.alloc ?_ _) | (with_reducible refine Up.drew ?_) | (with_reducible refine Up.drewN ?_ _) | (with_reducible refine Up.setCell ?_ ?_ _) | (with_reducible refine Up.call ?_ (by with_reducible assumption)) | go_size)))
  go_loopw [9, 10] (fun s9 s10 wr => ∃ k : Nat, k ≤ N ∧ s10 = .int .i64 k ∧ Hid (wr.ownsRow 0 35 10 s9 k ((l.take k).flatMap vcells) ∧ Up w2 wr ∧ ∀ g, s9.ownBlock = some g → w2.heap.size ≤ g)) (fun _ s10 _ => N - (intOf s10).toNat)
  case atStart => exact ⟨0, Nat.zero_le _, rfl, Lib.hid ⟨by rw [List.take_zero]; exact World.ownsRow_nil _ _ _ _, by (repeat' (first | (with_reducible exact Up.refl _) | (with_reducible assumption) | (with_reducible refine Up.alloc ?_ _) | (with_reducible refine Up.drew ?_) | (with_reducible refine Up.drewN ?_ _) | (with_reducible refine Up.setCell ?_ ?_ _) | (with_reducible refine Up.call ?_ (by with_reducible assumption)) | go_size)), fun g h => by simp [Value.ownBlock] at h⟩⟩
  case round =>
    obtain ⟨k, hk, rfl, HR⟩ := hrel
    have hur := HR.out.2.1
    have lbr : b < wr.heap.size := Nat.lt_of_lt_of_le hb (U2.out.call hur).size
    by_cases hlt : k < N
    · have dk : decide (k < N) = true := decide_eq_true hlt
      obtain ⟨b', o', e9, hb', hcl⟩ := HL.out.2.2.2.2 h1
      injection e9 with e9
      injection e9 with e91 e92
      subst e91 e92
      obtain ⟨q, hq⟩ : ∃ q, l[k]? = some q := ⟨_, List.getElem?_eq_getElem (by rw [HN.out]; exact hlt)⟩
      have ht : (l.take (k + 1)).flatMap vcells = (l.take k).flatMap vcells ++ vcells q := by
        rw [List.take_add_one, hq]; simp
      have HTK := Lib.hid ht
      have hce : ∀ j u, (ObjL.cells q)[j]? = some u → wr.cell? ⟨b, o + k * 8 + j, none⟩ = some u := fun j u hu => ((U2.out.call hur).cells.1 b _ hb).trans (hcl k q j u hq hu)
      obtain ⟨q0, q1, q2, q3, q4, q5, q6, q7⟩ := q
      have x0 : wr.cell? ⟨b, o + k * 8, none⟩ = some (.int .i64 q0) := hce 0 _ rfl
      have x1 := hce 1 _ rfl
      have x2 := hce 2 _ rfl
      have x3 := hce 3 _ rfl
      have x4 := hce 4 _ rfl
      have x5 := hce 5 _ rfl
      have x6 := hce 6 _ rfl
      have x7 := hce 7 _ rfl
      clear hce hcl hq ht
      go_wp2_with (first
        | (go_at_call 11; ((with_reducible refine (val_calls q0 q1 q2 q3 q4 q5 q6 q7 _).mono ?_); rintro E w3 ⟨rfl, hu3⟩))
        | (at_builtin; refine wpList_append_own_at _ rfl _ _ 30 rfl 0 35 i1 _ 10 88 Tryd.underlying30 ki kz0 kz1 kz2 rfl (by decide) _ k _ rfl (owned_up HR.out.1 (show Up wr _ by (repeat' (first | (with_reducible exact Up.refl _) | (with_reducible assumption) | (with_reducible refine Up.alloc ?_ _) | (with_reducible refine Up.drew ?_) | (with_reducible refine Up.drewN ?_ _) | (with_reducible refine Up.setCell ?_ ?_ _) | (with_reducible refine Up.call ?_ (by with_reducible assumption)) | go_size)))) ⟨w3.heap.size, 0, none⟩ 1 1 (vcells ⟨q0, q1, q2, q3, q4, q5, q6, q7⟩) rfl rfl (news_at (show Row _ w3.heap.size (vcells ⟨q0, q1, q2, q3, q4, q5, q6, q7⟩).toArray by simp only [vcells]; (repeat' (first | (with_reducible assumption) | (with_reducible refine Row.at _ _ ?_; (simp; done)) | (with_reducible refine Row.alloc ?_ _) | (with_reducible refine Row.drew ?_) | (with_reducible refine Row.drewN ?_ _) | (with_reducible refine Row.other ?_ (by first | (simp; done) | (simp; omega) | omega) _) | (with_reducible refine Row.up ?_ (by with_reducible assumption)) | (with_reducible refine Row.chg ?_ (by with_reducible assumption) (by first | (simp; done) | (simp; omega)))))) rfl) (by simp [vcells, Value.oneCell']) (by unfold maxLen; omega) (by omega) (Nat.zero_le _) ?_; intro vn wn hown hgr hnil hat; have HN := Lib.hid hown; have HNA := Lib.hid hat; have HG := Lib.hid (show Up w2 wn from grown_up (by (repeat' (first | (with_reducible exact Up.refl _) | (with_reducible assumption) | (with_reducible refine Up.alloc ?_ _) | (with_reducible refine Up.drew ?_) | (with_reducible refine Up.drewN ?_ _) | (with_reducible refine Up.setCell ?_ ?_ _) | (with_reducible refine Up.call ?_ (by with_reducible assumption)) | go_size))) hgr (fun g hg => HR.out.2.2 g hg)); clear hown hgr hnil hat))
      go_roundw
      case measure => simp [intOf]; omega
      case rel =>
        refine ⟨k + 1, by omega, by go_num, Lib.hid ⟨by rw [HTK.out]; exact HN.out, HG.out, fun g hg => ?_⟩⟩
        rcases HNA.out with e | e
        · exact HR.out.2.2 g (e.symm.trans hg)
        · have := (show Up w2 w3 by (repeat' (first | (with_reducible exact Up.refl _) | (with_reducible assumption) | (with_reducible refine Up.alloc ?_ _) | (with_reducible refine Up.drew ?_) | (with_reducible refine Up.drewN ?_ _) | (with_reducible refine Up.setCell ?_ ?_ _) | (with_reducible refine Up.call ?_ (by with_reducible assumption)) | go_size))).size
          rw [e] at hg
          injection hg with hg
          rw [← hg]
          simp
          omega
    · have dk : decide (k < N) = false := decide_eq_false hlt
      obtain rfl : k = N := by omega
      have hvo := HR.out.1
      rw [← HN.out, List.take_length, HN.out] at hvo
      rcases owned_form hvo with ⟨_, h0⟩ | ⟨gv, cv, e9, v1, v2, v3⟩
      · omega
      subst e9
      have hcv : Cs wr gv (l.flatMap vcells).toArray := fun i u e => by
        have := hvo.cells (g := gv) rfl i u (by simpa using e)
        rwa [add_plain, Nat.zero_add] at this
      have HCV := Lib.hid hcv
      clear hcv hvo
      go_wp2_with (first
        | (go_at_call 12; ((with_reducible refine (HA.out _ gv cv HCV.out v3).mono ?_); rintro E w4 ⟨⟨vr, rfl, hvr⟩, hu4⟩; obtain ⟨b4, hb4, rfl, gb4⟩ := OutR.ok hvr; have GV := Lib.hid gb4; clear hvr gb4)))
      have U4 := Lib.hid (show Up w w4 by have h3 := U2.out; (repeat' (first | (with_reducible exact Up.refl _) | (with_reducible assumption) | (with_reducible refine Up.alloc ?_ _) | (with_reducible refine Up.drew ?_) | (with_reducible refine Up.drewN ?_ _) | (with_reducible refine Up.setCell ?_ ?_ _) | (with_reducible refine Up.call ?_ (by with_reducible assumption)) | go_size)))
      have GB4 := Lib.hid (GB.out.up (show Up w2 w4 by (repeat' (first | (with_reducible exact Up.refl _) | (with_reducible assumption) | (with_reducible refine Up.alloc ?_ _) | (with_reducible refine Up.drew ?_) | (with_reducible refine Up.drewN ?_ _) | (with_reducible refine Up.setCell ?_ ?_ _) | (with_reducible refine Up.call ?_ (by with_reducible assumption)) | go_size))))
      go_loopw [13] (fun s13 wz => ∃ k : Nat, k ≤ 1 ∧ s13 = .int .i64 k ∧ Hid (Up w4 wz)) (fun s13 _ => 1 - (intOf s13).toNat)
      case atStart => exact ⟨0, Nat.zero_le _, rfl, Lib.hid (Up.refl _)⟩
      case round =>
        obtain ⟨k, hk, rfl, HZ⟩ := hrel
        by_cases hlt : k < 1
        · obtain rfl : k = 0 := by omega
          have p0 := (GB4.out.up HZ.out).cell 0 rfl
          have p1 := (GB4.out.up HZ.out).cell 1 rfl
          have p2 := (GB4.out.up HZ.out).cell 2 rfl
          have p3 := (GB4.out.up HZ.out).cell 3 rfl
          have p4 := (GB4.out.up HZ.out).cell 4 rfl
          have p5 := (GB4.out.up HZ.out).cell 5 rfl
          have p6 := (GB4.out.up HZ.out).cell 6 rfl
          have p7 := (GB4.out.up HZ.out).cell 7 rfl
          have r0 := (GV.out.up HZ.out).cell 0 rfl
          have r1 := (GV.out.up HZ.out).cell 1 rfl
          have r2 := (GV.out.up HZ.out).cell 2 rfl
          have r3 := (GV.out.up HZ.out).cell 3 rfl
          have r4 := (GV.out.up HZ.out).cell 4 rfl
          as_aux_lemma =>
            go_wp2
            go_quiet (fail)
            all_goals go_wp2
            all_goals go_roundw
            case rel => exact ⟨1, by omega, rfl, Lib.hid (HZ.out.drewN _)⟩
            case measure => simp [intOf]
        · obtain rfl : k = 1 := by omega
          go_wp2
          go_ret
          exact ⟨rfl, U4.out.call HZ.out⟩

end Go.Proofs.YtakickodehebmaaDoor.arithDoes
