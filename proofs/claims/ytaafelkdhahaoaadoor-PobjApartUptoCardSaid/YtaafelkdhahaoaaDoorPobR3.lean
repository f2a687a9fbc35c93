/- The reference's sound of an object with parts. Its condition: an object that is not too large. -/
import Derived.Test.YtaafelkdhahaoaaDoorPobR2
namespace Go.Proofs.YtaafelkdhahaoaaDoor.Pob
open Go.ChangeShapes Go.WideShapes Go.RowKit Go.Shelf
set_option linter.unusedVariables false
set_option linter.unusedSimpArgs false

set_option maxRecDepth 8000 in
set_option maxHeartbeats 8000000 in
theorem rsound_k7 (n : Int) (t : List UInt8) (ka : Option Addr) (kl kc : Nat) (la : Option Addr) (ll lc : Nat) (da : Option Addr) (dl dc : Nat) (ks : List (List UInt8)) (l : List PO) (s : Bool) (m j : Nat) (ih : (∀ (c : PO) (W : World), POk W c → lightR j c = true → Calls Tryd.prog 18 #[.agg c.cells.toArray, .int .i64 (m : Int), .bool false] W fun e w' => e = .returned (.bool (sndR m false c)) ∧ Up W w')) (r : Bool) (hr : ((bareC n t kl ll dl false false true true false && decide (kl = ll) && distR ks) && l.all (sndR m false)) = r) (w : World) (hk : Sl 1 kcells w ka kl kc ks) (hl : Sl 6 PO.cells w la ll lc l) (hc : ∀ c ∈ l, POk w c) (hj : ∀ c ∈ l, lightR j c = true) (hkl : ∀ s ∈ ks, s.length ≤ 300) (h3 : ll ≤ 300) (h5 : dl ≤ 5000) (hm : m ≤ 100) :
    Calls Tryd.prog 18 #[.agg #[.int .i64 7, .int .i64 n, .string ⟨t.toArray⟩, .slice ka kl kc, .slice la ll lc, .slice da dl dc], .int .i64 ((m + 1 : Nat) : Int), .bool s] w fun e w' => e = .returned (.bool r) ∧ Up w w' := by
  have HIH := Lib.hid ih
  have HK := Lib.hid hk
  have HL := Lib.hid hl
  have HC := Lib.hid hc
  have HJ := Lib.hid hj
  have HR := Lib.hid hr
  have HLN := Lib.hid hl.2.2.1
  have HKN := Lib.hid hk.2.2.1
  have HKL := Lib.hid hkl
  have l1 := hl.1
  have l2 := hl.2.1
  have k1 := hk.1
  have k2 := hk.2.1
  obtain ⟨q, hq⟩ : ∃ q : Int, ((m + 1 : Nat) : Int) = q := ⟨_, rfl⟩
  rw [hq]
  have hq0 : 1 ≤ q := by omega
  have hq1 : q ≤ 101 := by omega
  have HQ := Lib.hid (show q - 1 = (m : Int) by omega)
  clear hq ih hk hl hc hj hr hkl
  obtain ⟨b0, hb0⟩ : ∃ b, ((n : Int) == 0) = b := ⟨_, rfl⟩
  have HMb0 : Hid (decide (n = 0) = b0) := Lib.hid ((beqZ n).symm.trans hb0)
  obtain ⟨b4, hb4⟩ : ∃ b, ((dl : Int) == 0) = b := ⟨_, rfl⟩
  have HMb4 : Hid (decide (dl = 0) = b4) := Lib.hid ((beqN dl).symm.trans hb4)
  by_cases ht : t = []
  · have HTT := Lib.hid (show decide (t = []) = true by simp [ht])
    subst ht
    cases b0
    · obtain rfl : r = false := by rw [← HR.out]; simp only [bareC, HMb0.out, HMb4.out, HTT.out, Bool.true_or, Bool.false_or, Bool.or_false, Bool.or_true, Bool.and_true, Bool.true_and, Bool.and_false, Bool.false_and, Bool.and_self, Bool.not_false, Bool.not_true] <;> (try rfl)
      go_enter Tryd.func18, Tryd.ntmps18
      go_wp2
      go_ret
      exact ⟨rfl, by (repeat' (first | (with_reducible exact Up.refl _) | (with_reducible assumption) | (with_reducible refine Up.alloc ?_ _) | (with_reducible refine Up.drew ?_) | (with_reducible refine Up.drewN ?_ _) | (with_reducible refine Up.setCell ?_ ?_ _) | (with_reducible refine Up.call ?_ (by with_reducible assumption)) | go_size))⟩
    · by_cases he : kl = ll
      rotate_left
      · have HE := Lib.hid (show decide (kl = ll) = false from decide_eq_false he)
        obtain rfl : r = false := by rw [← HR.out]; simp only [bareC, HMb0.out, HMb4.out, HTT.out, HE.out, Bool.true_or, Bool.false_or, Bool.or_false, Bool.or_true, Bool.and_true, Bool.true_and, Bool.and_false, Bool.false_and, Bool.and_self, Bool.not_false, Bool.not_true] <;> (try rfl)
        have de : ((kl : Int) != (ll : Int)) = true := by simp; omega
        clear he
        go_enter Tryd.func18, Tryd.ntmps18
        go_wp2
        go_ret
        exact ⟨rfl, by (repeat' (first | (with_reducible exact Up.refl _) | (with_reducible assumption) | (with_reducible refine Up.alloc ?_ _) | (with_reducible refine Up.drew ?_) | (with_reducible refine Up.drewN ?_ _) | (with_reducible refine Up.setCell ?_ ?_ _) | (with_reducible refine Up.call ?_ (by with_reducible assumption)) | go_size))⟩
      have HE := Lib.hid (show decide (kl = ll) = true from decide_eq_true he)
      have de : ((kl : Int) != (ll : Int)) = false := by simp [he]
      have HEE := Lib.hid he
      clear he
      cases b4
      · obtain rfl : r = false := by rw [← HR.out]; simp only [bareC, HMb0.out, HMb4.out, HTT.out, HE.out, Bool.true_or, Bool.false_or, Bool.or_false, Bool.or_true, Bool.and_true, Bool.true_and, Bool.and_false, Bool.false_and, Bool.and_self, Bool.not_false, Bool.not_true] <;> (try rfl)
        go_enter Tryd.func18, Tryd.ntmps18
        go_wp2
        go_ret
        exact ⟨rfl, by (repeat' (first | (with_reducible exact Up.refl _) | (with_reducible assumption) | (with_reducible refine Up.alloc ?_ _) | (with_reducible refine Up.drew ?_) | (with_reducible refine Up.drewN ?_ _) | (with_reducible refine Up.setCell ?_ ?_ _) | (with_reducible refine Up.call ?_ (by with_reducible assumption)) | go_size))⟩
      · have HREST2 := Lib.hid (show (keysR false ks && l.all (sndR m false)) = r from by have h9 := HR.out; rw [← h9, keys_seven]; simp only [bareC, HMb0.out, HMb4.out, HTT.out, HE.out, Bool.true_or, Bool.false_or, Bool.or_false, Bool.or_true, Bool.and_true, Bool.true_and, Bool.and_false, Bool.false_and, Bool.and_self, Bool.not_false, Bool.not_true] <;> (try rfl))
        go_enter Tryd.func18, Tryd.ntmps18
        go_wp2
        go_loopw [12] (fun s12 wr => ∃ i : Nat, i ≤ kl ∧ s12 = .int .i64 i ∧ Hid ((List.range i).all (keyOk false ks) = true) ∧ Up (w.alloc (.cells #[.int .i64 7, .int .i64 n, .string ⟨#[]⟩, .slice ka kl kc, .slice la ll lc, .slice da dl dc] 26)) wr) (fun s12 _ => kl - (intOf s12).toNat)
        case atStart => exact ⟨0, Nat.zero_le _, rfl, Lib.hid rfl, Up.refl _⟩
        case round =>
          obtain ⟨i, hi, rfl, HA, hup⟩ := hrel
          obtain ⟨wo, hwo⟩ : ∃ x, x = wr := ⟨wr, rfl⟩
          subst hwo
          have HUWa : Hid (Up w wo) := Lib.hid ((Up.alloc (Up.refl w) _).call hup)
          have zra := hup.size
          simp at zra
          have xba := (show Row (w.alloc (.cells #[.int .i64 7, .int .i64 n, .string ⟨#[]⟩, .slice ka kl kc, .slice la ll lc, .slice da dl dc] 26)) w.heap.size #[.int .i64 7, .int .i64 n, .string ⟨#[]⟩, .slice ka kl kc, .slice la ll lc, .slice da dl dc] by (repeat' (first | (with_reducible assumption) | (with_reducible refine Row.at _ _ ?_; (simp; done)) | (with_reducible refine Row.alloc ?_ _) | (with_reducible refine Row.drew ?_) | (with_reducible refine Row.drewN ?_ _) | (with_reducible refine Row.other ?_ (by first | (simp; done) | (simp; omega) | omega) _) | (with_reducible refine Row.up ?_ (by with_reducible assumption)) | (with_reducible refine Row.chg ?_ (by with_reducible assumption) (by first | (simp; done) | (simp; omega)))))).up hup
          have x3a := xba.cell 3 rfl
          have x0a := xba.cell 0 rfl
          have x4a := xba.cell 4 rfl
          clear xba
          by_cases hlt : i < kl
          · obtain ⟨b, o, rfl, hb, hc⟩ := sl_some HK.out (by omega)
            obtain ⟨x, hx⟩ : ∃ x, ks[i]? = some x := ⟨_, List.getElem?_eq_getElem (by have := HKN.out; omega)⟩
            have hg : ks.getD i [] = x := by rw [List.getD_eq_getElem?_getD, hx]; rfl
            have HXL := Lib.hid (HKL.out x (List.mem_of_getElem? hx))
            have HBL := Lib.hid hb
            have HCC : Hid (∀ (j2 : Nat) (y : List UInt8), ks[j2]? = some y → w.cell? ⟨b, o + j2, none⟩ = some (.string ⟨y.toArray⟩)) := Lib.hid (fun j2 y hy => by have := hc j2 y 0 _ hy rfl; simpa using this)
            have q0 := (HUWa.out.cells.1 b _ hb).trans (HCC.out i x hx)
            have lba : b < wo.heap.size := Nat.lt_of_lt_of_le hb HUWa.out.size
            have HG := Lib.hid hg
            have HJ2 := Lib.hid (show i < ks.length by have := HKN.out; omega)
            clear hc hx hg hb
            obtain ⟨u, hu⟩ : ∃ u, namedB x = u := ⟨_, rfl⟩
            have HU := Lib.hid hu
            clear hu
            cases u
            · obtain rfl : r = false := by rw [← HREST2.out]; unfold keysR; rw [range_miss HJ2.out (by simp only [keyOk, HG.out, HU.out, Bool.false_and])]; rfl
              go_wp2_with (go_at_call 37; ((with_reducible refine (rname_calls x _ HU.out (by have := HXL.out; omega) _).mono ?_); rintro e w2 ⟨rfl, rfl⟩))
              go_ret
              exact ⟨rfl, HUWa.out⟩
            · have HOKN : Hid ((!(false && (x == lenKey))) = true) := Lib.hid (rfl)
              go_wp2_with (go_at_call 37; ((with_reducible refine (rname_calls x _ HU.out (by have := HXL.out; omega) _).mono ?_); rintro e w2 ⟨rfl, rfl⟩))
              go_loopw [13] (fun s13 wr => ∃ j2 : Nat, j2 ≤ i ∧ s13 = .int .i64 j2 ∧ Hid ((ks.take j2).contains x = false) ∧ Up (w.alloc (.cells #[.int .i64 7, .int .i64 n, .string ⟨#[]⟩, .slice (some ⟨b, o, none⟩) kl kc, .slice la ll lc, .slice da dl dc] 26)) wr) (fun s13 _ => i - (intOf s13).toNat)
              case atStart => exact ⟨0, Nat.zero_le _, rfl, Lib.hid rfl, hup⟩
              case round =>
                obtain ⟨j2, hj2, rfl, HNO, hup2⟩ := hrel
                have HUWb : Hid (Up w wr) := Lib.hid ((Up.alloc (Up.refl w) _).call hup2)
                have zrb := hup2.size
                simp at zrb
                have xbb := (show Row (w.alloc (.cells #[.int .i64 7, .int .i64 n, .string ⟨#[]⟩, .slice (some ⟨b, o, none⟩) kl kc, .slice la ll lc, .slice da dl dc] 26)) w.heap.size #[.int .i64 7, .int .i64 n, .string ⟨#[]⟩, .slice (some ⟨b, o, none⟩) kl kc, .slice la ll lc, .slice da dl dc] by (repeat' (first | (with_reducible assumption) | (with_reducible refine Row.at _ _ ?_; (simp; done)) | (with_reducible refine Row.alloc ?_ _) | (with_reducible refine Row.drew ?_) | (with_reducible refine Row.drewN ?_ _) | (with_reducible refine Row.other ?_ (by first | (simp; done) | (simp; omega) | omega) _) | (with_reducible refine Row.up ?_ (by with_reducible assumption)) | (with_reducible refine Row.chg ?_ (by with_reducible assumption) (by first | (simp; done) | (simp; omega)))))).up hup2
                have x3b := xbb.cell 3 rfl
                have x0b := xbb.cell 0 rfl
                have x4b := xbb.cell 4 rfl
                clear xbb
                have q0b := (HUWb.out.cells.1 b _ HBL.out).trans (HCC.out i x (by have := HG.out; rw [List.getD_eq_getElem?_getD, List.getElem?_eq_getElem HJ2.out] at this; rw [List.getElem?_eq_getElem HJ2.out]; exact congrArg some this))
                have lbb : b < wr.heap.size := Nat.lt_of_lt_of_le HBL.out HUWb.out.size
                by_cases hlj : j2 < i
                · obtain ⟨y, hy⟩ : ∃ y, ks[j2]? = some y := ⟨_, List.getElem?_eq_getElem (by have := HJ2.out; omega)⟩
                  have HY := Lib.hid hy
                  have q1 := (HUWb.out.cells.1 b _ HBL.out).trans (HCC.out j2 y hy)
                  clear hy
                  by_cases hxy : y = x
                  · subst hxy
                    obtain rfl : r = false := by rw [← HREST2.out]; unfold keysR; rw [range_miss HJ2.out (by simp only [keyOk, HG.out, in_take HY.out hlj, Bool.not_true, Bool.and_false])]; rfl
                    go_wp2
                    go_region
                    go_wp2
                    go_ret
                    exact ⟨rfl, Up.drew HUWb.out⟩
                  · have HXY := Lib.hid hxy
                    have hxe : (y == x) = false := beq_eq_false_iff_ne.2 hxy
                    go_wp2
                    go_region
                    go_wp2
                    go_roundw
                    case rel => exact ⟨j2 + 1, by omega, by go_num, Lib.hid (not_in_step HY.out HNO.out HXY.out), Up.drew hup2⟩
                    case measure => simp [intOf]; omega
                · have hcast2 : decide (j2 < i) = false := decide_eq_false hlj
                  obtain rfl : i = j2 := by omega
                  go_wp2
                  go_roundw
                  case rel => exact ⟨i + 1, by omega, by go_num, Lib.hid (range_step HA.out (by simp only [keyOk, HG.out, HU.out, HOKN.out, HNO.out, Bool.not_false, Bool.and_self])), hup2⟩
                  case measure => simp [intOf]; omega
          · have hcast : decide (i < kl) = false := decide_eq_false hlt
            obtain rfl : kl = i := by omega
            have HREST := Lib.hid (show l.all (sndR m false) = r from by
              have h9 := HREST2.out
              have h8 : keysR false ks = true := by unfold keysR; rw [HKN.out]; exact HA.out
              rw [h8] at h9
              rw [← h9]
              rfl)
            go_wp2
            go_loopw [14] (fun s14 wr => ∃ i : Nat, i ≤ ll ∧ s14 = .int .i64 i ∧ Hid ((l.take i).all (sndR m false) = true) ∧ Up (w.alloc (.cells #[.int .i64 7, .int .i64 n, .string ⟨#[]⟩, .slice ka kl kc, .slice la ll lc, .slice da dl dc] 26)) wr) (fun s14 _ => ll - (intOf s14).toNat)
            case atStart => exact ⟨0, Nat.zero_le _, rfl, Lib.hid rfl, hup⟩
            case round =>
              obtain ⟨i, hi, rfl, HA, hup⟩ := hrel
              have HUW : Hid (Up w wr) := Lib.hid ((Up.alloc (Up.refl w) _).call hup)
              have zr := hup.size
              simp at zr
              have x4 := (hup.cells.1 w.heap.size 4 (by simp)).trans (show (w.alloc (.cells #[.int .i64 7, .int .i64 n, .string ⟨#[]⟩, .slice ka kl kc, .slice la ll lc, .slice da dl dc] 26)).cell? ⟨w.heap.size, 4, none⟩ = some (.slice la ll lc) from (show Row (w.alloc (.cells #[.int .i64 7, .int .i64 n, .string ⟨#[]⟩, .slice ka kl kc, .slice la ll lc, .slice da dl dc] 26)) w.heap.size #[.int .i64 7, .int .i64 n, .string ⟨#[]⟩, .slice ka kl kc, .slice la ll lc, .slice da dl dc] by (repeat' (first | (with_reducible assumption) | (with_reducible refine Row.at _ _ ?_; (simp; done)) | (with_reducible refine Row.alloc ?_ _) | (with_reducible refine Row.drew ?_) | (with_reducible refine Row.drewN ?_ _) | (with_reducible refine Row.other ?_ (by first | (simp; done) | (simp; omega) | omega) _) | (with_reducible refine Row.up ?_ (by with_reducible assumption)) | (with_reducible refine Row.chg ?_ (by with_reducible assumption) (by first | (simp; done) | (simp; omega)))))).cell 4 rfl)
              by_cases hli : i < ll
              · obtain ⟨b, o, rfl, hb, hc⟩ := sl_some HL.out (by omega)
                obtain ⟨c, hc2⟩ : ∃ c, l[i]? = some c := ⟨_, List.getElem?_eq_getElem (by have := HLN.out; omega)⟩
                have HOK := Lib.hid (HC.out c (List.mem_of_getElem? hc2))
                have HLT := Lib.hid (HJ.out c (List.mem_of_getElem? hc2))
                obtain ⟨v, hv⟩ : ∃ v, sndR m false c = v := ⟨_, rfl⟩
                have HV := Lib.hid hv
                obtain ⟨ck, cn, ct, cka, ckl, ckc, cks, cla, cll, clc, cl, cda, cdl, cdc, cd⟩ := c
                obtain ⟨e0, e1, e2, e3, e4, e5⟩ := po_at hb hc HUW.out hc2
                have HREC : Hid (∀ W, Up w W → Calls Tryd.prog 18 #[.agg #[.int .i64 ck, .int .i64 cn, .string ⟨ct.toArray⟩, .slice cka ckl ckc, .slice cla cll clc, .slice cda cdl cdc], .int .i64 (m : Int), .bool false] W fun e w' => e = .returned (.bool v) ∧ Up W w') := Lib.hid (fun W hu => by rw [← HV.out]; exact HIH.out (.mk ck cn ct cka ckl ckc cks cla cll clc cl cda cdl cdc cd) W (HOK.out.up hu) HLT.out)
                have HC2 := Lib.hid hc2
                clear hc hc2 hv
                cases v
                · obtain rfl : r = false := by rw [← HREST.out, all_miss HC2.out HV.out]
                  go_wp2_with (go_at_call 18; ((with_reducible rw [HQ.out]); (with_reducible refine (HREC.out _ (by first | exact HUW.out | exact Up.drew HUW.out)).mono ?_); rintro E w1 ⟨rfl, hu1⟩))
                  go_ret
                  exact ⟨rfl, HUW.out.call hu1⟩
                · go_wp2_with (go_at_call 18; ((with_reducible rw [HQ.out]); (with_reducible refine (HREC.out _ (by first | exact HUW.out | exact Up.drew HUW.out)).mono ?_); rintro E w1 ⟨rfl, hu1⟩))
                  go_roundw
                  case rel => exact ⟨i + 1, by omega, by go_num, Lib.hid (all_step HC2.out HA.out HV.out), hup.call hu1⟩
                  case measure => simp [intOf]; omega
              · have hcast : decide (i < ll) = false := decide_eq_false hli
                obtain rfl : ll = i := by omega
                obtain rfl : r = true := by rw [← HREST.out, all_full HLN.out HA.out]
                go_wp2
                go_ret
                exact ⟨rfl, HUW.out⟩
  · have HTT := Lib.hid (show decide (t = []) = false by simp [ht])
    have ht2 : t.isEmpty = false := by simpa using ht
    cases b0
    · obtain rfl : r = false := by rw [← HR.out]; simp only [bareC, HMb0.out, HMb4.out, HTT.out, Bool.true_or, Bool.false_or, Bool.or_false, Bool.or_true, Bool.and_true, Bool.true_and, Bool.and_false, Bool.false_and, Bool.and_self, Bool.not_false, Bool.not_true] <;> (try rfl)
      go_enter Tryd.func18, Tryd.ntmps18
      go_wp2
      go_ret
      exact ⟨rfl, by (repeat' (first | (with_reducible exact Up.refl _) | (with_reducible assumption) | (with_reducible refine Up.alloc ?_ _) | (with_reducible refine Up.drew ?_) | (with_reducible refine Up.drewN ?_ _) | (with_reducible refine Up.setCell ?_ ?_ _) | (with_reducible refine Up.call ?_ (by with_reducible assumption)) | go_size))⟩
    · obtain rfl : r = false := by rw [← HR.out]; simp only [bareC, HMb0.out, HMb4.out, HTT.out, Bool.true_or, Bool.false_or, Bool.or_false, Bool.or_true, Bool.and_true, Bool.true_and, Bool.and_false, Bool.false_and, Bool.and_self, Bool.not_false, Bool.not_true] <;> (try rfl)
      go_enter Tryd.func18, Tryd.ntmps18
      go_wp2
      go_ret
      exact ⟨rfl, by (repeat' (first | (with_reducible exact Up.refl _) | (with_reducible assumption) | (with_reducible refine Up.alloc ?_ _) | (with_reducible refine Up.drew ?_) | (with_reducible refine Up.drewN ?_ _) | (with_reducible refine Up.setCell ?_ ?_ _) | (with_reducible refine Up.call ?_ (by with_reducible assumption)) | go_size))⟩
set_option maxRecDepth 8000 in
set_option maxHeartbeats 8000000 in
theorem rsound_k9 (n : Int) (t : List UInt8) (ka : Option Addr) (kl kc : Nat) (la : Option Addr) (ll lc : Nat) (da : Option Addr) (dl dc : Nat) (ks : List (List UInt8)) (l : List PO) (m j : Nat) (ih : (∀ (c : PO) (W : World), POk W c → lightR j c = true → Calls Tryd.prog 18 #[.agg c.cells.toArray, .int .i64 (m : Int), .bool false] W fun e w' => e = .returned (.bool (sndR m false c)) ∧ Up W w')) (r : Bool) (hr : ((true && (bareC n t kl ll dl false false true true true && decide (kl = ll) && distR ks && !ks.contains lenKey)) && l.all (sndR m false)) = r) (w : World) (hk : Sl 1 kcells w ka kl kc ks) (hl : Sl 6 PO.cells w la ll lc l) (hc : ∀ c ∈ l, POk w c) (hj : ∀ c ∈ l, lightR j c = true) (hkl : ∀ s ∈ ks, s.length ≤ 300) (h3 : ll ≤ 300) (h5 : dl ≤ 5000) (hm : m ≤ 100) :
    Calls Tryd.prog 18 #[.agg #[.int .i64 9, .int .i64 n, .string ⟨t.toArray⟩, .slice ka kl kc, .slice la ll lc, .slice da dl dc], .int .i64 ((m + 1 : Nat) : Int), .bool true] w fun e w' => e = .returned (.bool r) ∧ Up w w' := by
  have HIH := Lib.hid ih
  have HK := Lib.hid hk
  have HL := Lib.hid hl
  have HC := Lib.hid hc
  have HJ := Lib.hid hj
  have HR := Lib.hid hr
  have HLN := Lib.hid hl.2.2.1
  have HKN := Lib.hid hk.2.2.1
  have HKL := Lib.hid hkl
  have l1 := hl.1
  have l2 := hl.2.1
  have k1 := hk.1
  have k2 := hk.2.1
  obtain ⟨q, hq⟩ : ∃ q : Int, ((m + 1 : Nat) : Int) = q := ⟨_, rfl⟩
  rw [hq]
  have hq0 : 1 ≤ q := by omega
  have hq1 : q ≤ 101 := by omega
  have HQ := Lib.hid (show q - 1 = (m : Int) by omega)
  clear hq ih hk hl hc hj hr hkl
  obtain ⟨b0, hb0⟩ : ∃ b, ((n : Int) == 0) = b := ⟨_, rfl⟩
  have HMb0 : Hid (decide (n = 0) = b0) := Lib.hid ((beqZ n).symm.trans hb0)
  by_cases ht : t = []
  · have HTT := Lib.hid (show decide (t = []) = true by simp [ht])
    subst ht
    cases b0
    · obtain rfl : r = false := by rw [← HR.out]; simp only [bareC, HMb0.out, HTT.out, Bool.true_or, Bool.false_or, Bool.or_false, Bool.or_true, Bool.and_true, Bool.true_and, Bool.and_false, Bool.false_and, Bool.and_self, Bool.not_false, Bool.not_true] <;> (try rfl)
      go_enter Tryd.func18, Tryd.ntmps18
      go_wp2
      go_ret
      exact ⟨rfl, by (repeat' (first | (with_reducible exact Up.refl _) | (with_reducible assumption) | (with_reducible refine Up.alloc ?_ _) | (with_reducible refine Up.drew ?_) | (with_reducible refine Up.drewN ?_ _) | (with_reducible refine Up.setCell ?_ ?_ _) | (with_reducible refine Up.call ?_ (by with_reducible assumption)) | go_size))⟩
    · by_cases he : kl = ll
      rotate_left
      · have HE := Lib.hid (show decide (kl = ll) = false from decide_eq_false he)
        obtain rfl : r = false := by rw [← HR.out]; simp only [bareC, HMb0.out, HTT.out, HE.out, Bool.true_or, Bool.false_or, Bool.or_false, Bool.or_true, Bool.and_true, Bool.true_and, Bool.and_false, Bool.false_and, Bool.and_self, Bool.not_false, Bool.not_true] <;> (try rfl)
        have de : ((kl : Int) != (ll : Int)) = true := by simp; omega
        clear he
        go_enter Tryd.func18, Tryd.ntmps18
        go_wp2
        go_ret
        exact ⟨rfl, by (repeat' (first | (with_reducible exact Up.refl _) | (with_reducible assumption) | (with_reducible refine Up.alloc ?_ _) | (with_reducible refine Up.drew ?_) | (with_reducible refine Up.drewN ?_ _) | (with_reducible refine Up.setCell ?_ ?_ _) | (with_reducible refine Up.call ?_ (by with_reducible assumption)) | go_size))⟩
      have HE := Lib.hid (show decide (kl = ll) = true from decide_eq_true he)
      have de : ((kl : Int) != (ll : Int)) = false := by simp [he]
      have HEE := Lib.hid he
      clear he
      have HREST2 := Lib.hid (show (keysR true ks && l.all (sndR m false)) = r from by have h9 := HR.out; rw [← h9, keys_nine]; simp only [bareC, HMb0.out, HTT.out, HE.out, Bool.true_or, Bool.false_or, Bool.or_false, Bool.or_true, Bool.and_true, Bool.true_and, Bool.and_false, Bool.false_and, Bool.and_self, Bool.not_false, Bool.not_true] <;> (try rfl))
      have d5 : decide ((1048576 : Int) < (dl : Int)) = false := decide_eq_false (by omega)
      go_enter Tryd.func18, Tryd.ntmps18
      go_wp2
      go_loopw [12] (fun s12 wr => ∃ i : Nat, i ≤ kl ∧ s12 = .int .i64 i ∧ Hid ((List.range i).all (keyOk true ks) = true) ∧ Up (w.alloc (.cells #[.int .i64 9, .int .i64 n, .string ⟨#[]⟩, .slice ka kl kc, .slice la ll lc, .slice da dl dc] 26)) wr) (fun s12 _ => kl - (intOf s12).toNat)
      case atStart => exact ⟨0, Nat.zero_le _, rfl, Lib.hid rfl, Up.refl _⟩
      case round =>
        obtain ⟨i, hi, rfl, HA, hup⟩ := hrel
        obtain ⟨wo, hwo⟩ : ∃ x, x = wr := ⟨wr, rfl⟩
        subst hwo
        have HUWa : Hid (Up w wo) := Lib.hid ((Up.alloc (Up.refl w) _).call hup)
        have zra := hup.size
        simp at zra
        have xba := (show Row (w.alloc (.cells #[.int .i64 9, .int .i64 n, .string ⟨#[]⟩, .slice ka kl kc, .slice la ll lc, .slice da dl dc] 26)) w.heap.size #[.int .i64 9, .int .i64 n, .string ⟨#[]⟩, .slice ka kl kc, .slice la ll lc, .slice da dl dc] by (repeat' (first | (with_reducible assumption) | (with_reducible refine Row.at _ _ ?_; (simp; done)) | (with_reducible refine Row.alloc ?_ _) | (with_reducible refine Row.drew ?_) | (with_reducible refine Row.drewN ?_ _) | (with_reducible refine Row.other ?_ (by first | (simp; done) | (simp; omega) | omega) _) | (with_reducible refine Row.up ?_ (by with_reducible assumption)) | (with_reducible refine Row.chg ?_ (by with_reducible assumption) (by first | (simp; done) | (simp; omega)))))).up hup
        have x3a := xba.cell 3 rfl
        have x0a := xba.cell 0 rfl
        have x4a := xba.cell 4 rfl
        clear xba
        by_cases hlt : i < kl
        · obtain ⟨b, o, rfl, hb, hc⟩ := sl_some HK.out (by omega)
          obtain ⟨x, hx⟩ : ∃ x, ks[i]? = some x := ⟨_, List.getElem?_eq_getElem (by have := HKN.out; omega)⟩
          have hg : ks.getD i [] = x := by rw [List.getD_eq_getElem?_getD, hx]; rfl
          have HXL := Lib.hid (HKL.out x (List.mem_of_getElem? hx))
          have HBL := Lib.hid hb
          have HCC : Hid (∀ (j2 : Nat) (y : List UInt8), ks[j2]? = some y → w.cell? ⟨b, o + j2, none⟩ = some (.string ⟨y.toArray⟩)) := Lib.hid (fun j2 y hy => by have := hc j2 y 0 _ hy rfl; simpa using this)
          have q0 := (HUWa.out.cells.1 b _ hb).trans (HCC.out i x hx)
          have lba : b < wo.heap.size := Nat.lt_of_lt_of_le hb HUWa.out.size
          have HG := Lib.hid hg
          have HJ2 := Lib.hid (show i < ks.length by have := HKN.out; omega)
          clear hc hx hg hb
          obtain ⟨u, hu⟩ : ∃ u, namedB x = u := ⟨_, rfl⟩
          have HU := Lib.hid hu
          clear hu
          cases u
          · obtain rfl : r = false := by rw [← HREST2.out]; unfold keysR; rw [range_miss HJ2.out (by simp only [keyOk, HG.out, HU.out, Bool.false_and])]; rfl
            go_wp2_with (go_at_call 37; ((with_reducible refine (rname_calls x _ HU.out (by have := HXL.out; omega) _).mono ?_); rintro e w2 ⟨rfl, rfl⟩))
            go_ret
            exact ⟨rfl, HUWa.out⟩
          · by_cases hxl : x = lenKey
            · have HXK := Lib.hid hxl
              have hxe : (x == [76, 101, 110, 103, 116, 104]) = true := by rw [hxl]; decide
              clear hxl
              obtain rfl : r = false := by rw [← HREST2.out]; unfold keysR; rw [range_miss HJ2.out (by simp only [keyOk, HG.out, HXK.out, Bool.true_and, beq_self_eq_true, Bool.not_true, Bool.and_false, Bool.false_and])]; rfl
              go_wp2_with (go_at_call 37; ((with_reducible refine (rname_calls x _ HU.out (by have := HXL.out; omega) _).mono ?_); rintro e w2 ⟨rfl, rfl⟩))
              go_ret
              exact ⟨rfl, HUWa.out⟩
            have HXK := Lib.hid hxl
            have hne : (x == [76, 101, 110, 103, 116, 104]) = false := beq_eq_false_iff_ne.2 hxl
            clear hxl
            have HOKN : Hid ((!(true && (x == lenKey))) = true) := Lib.hid (by simp only [Bool.true_and, Bool.not_eq_true']; exact beq_eq_false_iff_ne.2 HXK.out)
            go_wp2_with (go_at_call 37; ((with_reducible refine (rname_calls x _ HU.out (by have := HXL.out; omega) _).mono ?_); rintro e w2 ⟨rfl, rfl⟩))
            go_loopw [13] (fun s13 wr => ∃ j2 : Nat, j2 ≤ i ∧ s13 = .int .i64 j2 ∧ Hid ((ks.take j2).contains x = false) ∧ Up (w.alloc (.cells #[.int .i64 9, .int .i64 n, .string ⟨#[]⟩, .slice (some ⟨b, o, none⟩) kl kc, .slice la ll lc, .slice da dl dc] 26)) wr) (fun s13 _ => i - (intOf s13).toNat)
            case atStart => exact ⟨0, Nat.zero_le _, rfl, Lib.hid rfl, hup⟩
            case round =>
              obtain ⟨j2, hj2, rfl, HNO, hup2⟩ := hrel
              have HUWb : Hid (Up w wr) := Lib.hid ((Up.alloc (Up.refl w) _).call hup2)
              have zrb := hup2.size
              simp at zrb
              have xbb := (show Row (w.alloc (.cells #[.int .i64 9, .int .i64 n, .string ⟨#[]⟩, .slice (some ⟨b, o, none⟩) kl kc, .slice la ll lc, .slice da dl dc] 26)) w.heap.size #[.int .i64 9, .int .i64 n, .string ⟨#[]⟩, .slice (some ⟨b, o, none⟩) kl kc, .slice la ll lc, .slice da dl dc] by (repeat' (first | (with_reducible assumption) | (with_reducible refine Row.at _ _ ?_; (simp; done)) | (with_reducible refine Row.alloc ?_ _) | (with_reducible refine Row.drew ?_) | (with_reducible refine Row.drewN ?_ _) | (with_reducible refine Row.other ?_ (by first | (simp; done) | (simp; omega) | omega) _) | (with_reducible refine Row.up ?_ (by with_reducible assumption)) | (with_reducible refine Row.chg ?_ (by with_reducible assumption) (by first | (simp; done) | (simp; omega)))))).up hup2
              have x3b := xbb.cell 3 rfl
              have x0b := xbb.cell 0 rfl
              have x4b := xbb.cell 4 rfl
              clear xbb
              have q0b := (HUWb.out.cells.1 b _ HBL.out).trans (HCC.out i x (by have := HG.out; rw [List.getD_eq_getElem?_getD, List.getElem?_eq_getElem HJ2.out] at this; rw [List.getElem?_eq_getElem HJ2.out]; exact congrArg some this))
              have lbb : b < wr.heap.size := Nat.lt_of_lt_of_le HBL.out HUWb.out.size
              by_cases hlj : j2 < i
              · obtain ⟨y, hy⟩ : ∃ y, ks[j2]? = some y := ⟨_, List.getElem?_eq_getElem (by have := HJ2.out; omega)⟩
                have HY := Lib.hid hy
                have q1 := (HUWb.out.cells.1 b _ HBL.out).trans (HCC.out j2 y hy)
                clear hy
                by_cases hxy : y = x
                · subst hxy
                  obtain rfl : r = false := by rw [← HREST2.out]; unfold keysR; rw [range_miss HJ2.out (by simp only [keyOk, HG.out, in_take HY.out hlj, Bool.not_true, Bool.and_false])]; rfl
                  go_wp2
                  go_region
                  go_wp2
                  go_ret
                  exact ⟨rfl, Up.drew HUWb.out⟩
                · have HXY := Lib.hid hxy
                  have hxe : (y == x) = false := beq_eq_false_iff_ne.2 hxy
                  go_wp2
                  go_region
                  go_wp2
                  go_roundw
                  case rel => exact ⟨j2 + 1, by omega, by go_num, Lib.hid (not_in_step HY.out HNO.out HXY.out), Up.drew hup2⟩
                  case measure => simp [intOf]; omega
              · have hcast2 : decide (j2 < i) = false := decide_eq_false hlj
                obtain rfl : i = j2 := by omega
                go_wp2
                go_roundw
                case rel => exact ⟨i + 1, by omega, by go_num, Lib.hid (range_step HA.out (by simp only [keyOk, HG.out, HU.out, HOKN.out, HNO.out, Bool.not_false, Bool.and_self])), hup2⟩
                case measure => simp [intOf]; omega
        · have hcast : decide (i < kl) = false := decide_eq_false hlt
          obtain rfl : kl = i := by omega
          have HREST := Lib.hid (show l.all (sndR m false) = r from by
            have h9 := HREST2.out
            have h8 : keysR true ks = true := by unfold keysR; rw [HKN.out]; exact HA.out
            rw [h8] at h9
            rw [← h9]
            rfl)
          go_wp2
          go_loopw [14] (fun s14 wr => ∃ i : Nat, i ≤ ll ∧ s14 = .int .i64 i ∧ Hid ((l.take i).all (sndR m false) = true) ∧ Up (w.alloc (.cells #[.int .i64 9, .int .i64 n, .string ⟨#[]⟩, .slice ka kl kc, .slice la ll lc, .slice da dl dc] 26)) wr) (fun s14 _ => ll - (intOf s14).toNat)
          case atStart => exact ⟨0, Nat.zero_le _, rfl, Lib.hid rfl, hup⟩
          case round =>
            obtain ⟨i, hi, rfl, HA, hup⟩ := hrel
            have HUW : Hid (Up w wr) := Lib.hid ((Up.alloc (Up.refl w) _).call hup)
            have zr := hup.size
            simp at zr
            have x4 := (hup.cells.1 w.heap.size 4 (by simp)).trans (show (w.alloc (.cells #[.int .i64 9, .int .i64 n, .string ⟨#[]⟩, .slice ka kl kc, .slice la ll lc, .slice da dl dc] 26)).cell? ⟨w.heap.size, 4, none⟩ = some (.slice la ll lc) from (show Row (w.alloc (.cells #[.int .i64 9, .int .i64 n, .string ⟨#[]⟩, .slice ka kl kc, .slice la ll lc, .slice da dl dc] 26)) w.heap.size #[.int .i64 9, .int .i64 n, .string ⟨#[]⟩, .slice ka kl kc, .slice la ll lc, .slice da dl dc] by (repeat' (first | (with_reducible assumption) | (with_reducible refine Row.at _ _ ?_; (simp; done)) | (with_reducible refine Row.alloc ?_ _) | (with_reducible refine Row.drew ?_) | (with_reducible refine Row.drewN ?_ _) | (with_reducible refine Row.other ?_ (by first | (simp; done) | (simp; omega) | omega) _) | (with_reducible refine Row.up ?_ (by with_reducible assumption)) | (with_reducible refine Row.chg ?_ (by with_reducible assumption) (by first | (simp; done) | (simp; omega)))))).cell 4 rfl)
            by_cases hli : i < ll
            · obtain ⟨b, o, rfl, hb, hc⟩ := sl_some HL.out (by omega)
              obtain ⟨c, hc2⟩ : ∃ c, l[i]? = some c := ⟨_, List.getElem?_eq_getElem (by have := HLN.out; omega)⟩
              have HOK := Lib.hid (HC.out c (List.mem_of_getElem? hc2))
              have HLT := Lib.hid (HJ.out c (List.mem_of_getElem? hc2))
              obtain ⟨v, hv⟩ : ∃ v, sndR m false c = v := ⟨_, rfl⟩
              have HV := Lib.hid hv
              obtain ⟨ck, cn, ct, cka, ckl, ckc, cks, cla, cll, clc, cl, cda, cdl, cdc, cd⟩ := c
              obtain ⟨e0, e1, e2, e3, e4, e5⟩ := po_at hb hc HUW.out hc2
              have HREC : Hid (∀ W, Up w W → Calls Tryd.prog 18 #[.agg #[.int .i64 ck, .int .i64 cn, .string ⟨ct.toArray⟩, .slice cka ckl ckc, .slice cla cll clc, .slice cda cdl cdc], .int .i64 (m : Int), .bool false] W fun e w' => e = .returned (.bool v) ∧ Up W w') := Lib.hid (fun W hu => by rw [← HV.out]; exact HIH.out (.mk ck cn ct cka ckl ckc cks cla cll clc cl cda cdl cdc cd) W (HOK.out.up hu) HLT.out)
              have HC2 := Lib.hid hc2
              clear hc hc2 hv
              cases v
              · obtain rfl : r = false := by rw [← HREST.out, all_miss HC2.out HV.out]
                go_wp2_with (go_at_call 18; ((with_reducible rw [HQ.out]); (with_reducible refine (HREC.out _ (by first | exact HUW.out | exact Up.drew HUW.out)).mono ?_); rintro E w1 ⟨rfl, hu1⟩))
                go_ret
                exact ⟨rfl, HUW.out.call hu1⟩
              · go_wp2_with (go_at_call 18; ((with_reducible rw [HQ.out]); (with_reducible refine (HREC.out _ (by first | exact HUW.out | exact Up.drew HUW.out)).mono ?_); rintro E w1 ⟨rfl, hu1⟩))
                go_roundw
                case rel => exact ⟨i + 1, by omega, by go_num, Lib.hid (all_step HC2.out HA.out HV.out), hup.call hu1⟩
                case measure => simp [intOf]; omega
            · have hcast : decide (i < ll) = false := decide_eq_false hli
              obtain rfl : ll = i := by omega
              obtain rfl : r = true := by rw [← HREST.out, all_full HLN.out HA.out]
              go_wp2
              go_ret
              exact ⟨rfl, HUW.out⟩
  · have HTT := Lib.hid (show decide (t = []) = false by simp [ht])
    have ht2 : t.isEmpty = false := by simpa using ht
    cases b0
    · obtain rfl : r = false := by rw [← HR.out]; simp only [bareC, HMb0.out, HTT.out, Bool.true_or, Bool.false_or, Bool.or_false, Bool.or_true, Bool.and_true, Bool.true_and, Bool.and_false, Bool.false_and, Bool.and_self, Bool.not_false, Bool.not_true] <;> (try rfl)
      go_enter Tryd.func18, Tryd.ntmps18
      go_wp2
      go_ret
      exact ⟨rfl, by (repeat' (first | (with_reducible exact Up.refl _) | (with_reducible assumption) | (with_reducible refine Up.alloc ?_ _) | (with_reducible refine Up.drew ?_) | (with_reducible refine Up.drewN ?_ _) | (with_reducible refine Up.setCell ?_ ?_ _) | (with_reducible refine Up.call ?_ (by with_reducible assumption)) | go_size))⟩
    · obtain rfl : r = false := by rw [← HR.out]; simp only [bareC, HMb0.out, HTT.out, Bool.true_or, Bool.false_or, Bool.or_false, Bool.or_true, Bool.and_true, Bool.true_and, Bool.and_false, Bool.false_and, Bool.and_self, Bool.not_false, Bool.not_true] <;> (try rfl)
      go_enter Tryd.func18, Tryd.ntmps18
      go_wp2
      go_ret
      exact ⟨rfl, by (repeat' (first | (with_reducible exact Up.refl _) | (with_reducible assumption) | (with_reducible refine Up.alloc ?_ _) | (with_reducible refine Up.drew ?_) | (with_reducible refine Up.drewN ?_ _) | (with_reducible refine Up.setCell ?_ ?_ _) | (with_reducible refine Up.call ?_ (by with_reducible assumption)) | go_size))⟩
set_option maxRecDepth 8000 in
set_option maxHeartbeats 8000000 in
theorem rsound_k9f (n : Int) (t : List UInt8) (ka : Option Addr) (kl kc : Nat) (la : Option Addr) (ll lc : Nat) (da : Option Addr) (dl dc : Nat) (ks : List (List UInt8)) (l : List PO) (m j : Nat) (ih : (∀ (c : PO) (W : World), POk W c → lightR j c = true → Calls Tryd.prog 18 #[.agg c.cells.toArray, .int .i64 (m : Int), .bool false] W fun e w' => e = .returned (.bool (sndR m false c)) ∧ Up W w')) (r : Bool) (hr : ((false && (bareC n t kl ll dl false false true true true && decide (kl = ll) && distR ks && !ks.contains lenKey)) && l.all (sndR m false)) = r) (w : World) (hk : Sl 1 kcells w ka kl kc ks) (hl : Sl 6 PO.cells w la ll lc l) (hc : ∀ c ∈ l, POk w c) (hj : ∀ c ∈ l, lightR j c = true) (hkl : ∀ s ∈ ks, s.length ≤ 300) (h3 : ll ≤ 300) (h5 : dl ≤ 5000) (hm : m ≤ 100) :
    Calls Tryd.prog 18 #[.agg #[.int .i64 9, .int .i64 n, .string ⟨t.toArray⟩, .slice ka kl kc, .slice la ll lc, .slice da dl dc], .int .i64 ((m + 1 : Nat) : Int), .bool false] w fun e w' => e = .returned (.bool r) ∧ Up w w' := by
  have HIH := Lib.hid ih
  have HK := Lib.hid hk
  have HL := Lib.hid hl
  have HC := Lib.hid hc
  have HJ := Lib.hid hj
  have HR := Lib.hid hr
  have HLN := Lib.hid hl.2.2.1
  have HKN := Lib.hid hk.2.2.1
  have HKL := Lib.hid hkl
  have l1 := hl.1
  have l2 := hl.2.1
  have k1 := hk.1
  have k2 := hk.2.1
  obtain ⟨q, hq⟩ : ∃ q : Int, ((m + 1 : Nat) : Int) = q := ⟨_, rfl⟩
  rw [hq]
  have hq0 : 1 ≤ q := by omega
  have hq1 : q ≤ 101 := by omega
  have HQ := Lib.hid (show q - 1 = (m : Int) by omega)
  clear hq ih hk hl hc hj hr hkl
  obtain ⟨b0, hb0⟩ : ∃ b, ((n : Int) == 0) = b := ⟨_, rfl⟩
  have HMb0 : Hid (decide (n = 0) = b0) := Lib.hid ((beqZ n).symm.trans hb0)
  by_cases ht : t = []
  · have HTT := Lib.hid (show decide (t = []) = true by simp [ht])
    subst ht
    cases b0
    · obtain rfl : r = false := by rw [← HR.out]; simp only [bareC, HMb0.out, HTT.out, Bool.true_or, Bool.false_or, Bool.or_false, Bool.or_true, Bool.and_true, Bool.true_and, Bool.and_false, Bool.false_and, Bool.and_self, Bool.not_false, Bool.not_true] <;> (try rfl)
      go_enter Tryd.func18, Tryd.ntmps18
      go_wp2
      go_ret
      exact ⟨rfl, by (repeat' (first | (with_reducible exact Up.refl _) | (with_reducible assumption) | (with_reducible refine Up.alloc ?_ _) | (with_reducible refine Up.drew ?_) | (with_reducible refine Up.drewN ?_ _) | (with_reducible refine Up.setCell ?_ ?_ _) | (with_reducible refine Up.call ?_ (by with_reducible assumption)) | go_size))⟩
    · by_cases he : kl = ll
      rotate_left
      · have HE := Lib.hid (show decide (kl = ll) = false from decide_eq_false he)
        obtain rfl : r = false := by rw [← HR.out]; simp only [bareC, HMb0.out, HTT.out, HE.out, Bool.true_or, Bool.false_or, Bool.or_false, Bool.or_true, Bool.and_true, Bool.true_and, Bool.and_false, Bool.false_and, Bool.and_self, Bool.not_false, Bool.not_true] <;> (try rfl)
        have de : ((kl : Int) != (ll : Int)) = true := by simp; omega
        clear he
        go_enter Tryd.func18, Tryd.ntmps18
        go_wp2
        go_ret
        exact ⟨rfl, by (repeat' (first | (with_reducible exact Up.refl _) | (with_reducible assumption) | (with_reducible refine Up.alloc ?_ _) | (with_reducible refine Up.drew ?_) | (with_reducible refine Up.drewN ?_ _) | (with_reducible refine Up.setCell ?_ ?_ _) | (with_reducible refine Up.call ?_ (by with_reducible assumption)) | go_size))⟩
      have HE := Lib.hid (show decide (kl = ll) = true from decide_eq_true he)
      have de : ((kl : Int) != (ll : Int)) = false := by simp [he]
      have HEE := Lib.hid he
      clear he
      obtain rfl : r = false := by rw [← HR.out]; rfl
      go_enter Tryd.func18, Tryd.ntmps18
      go_wp2
      go_ret
      exact ⟨rfl, by (repeat' (first | (with_reducible exact Up.refl _) | (with_reducible assumption) | (with_reducible refine Up.alloc ?_ _) | (with_reducible refine Up.drew ?_) | (with_reducible refine Up.drewN ?_ _) | (with_reducible refine Up.setCell ?_ ?_ _) | (with_reducible refine Up.call ?_ (by with_reducible assumption)) | go_size))⟩
  · have HTT := Lib.hid (show decide (t = []) = false by simp [ht])
    have ht2 : t.isEmpty = false := by simpa using ht
    cases b0
    · obtain rfl : r = false := by rw [← HR.out]; simp only [bareC, HMb0.out, HTT.out, Bool.true_or, Bool.false_or, Bool.or_false, Bool.or_true, Bool.and_true, Bool.true_and, Bool.and_false, Bool.false_and, Bool.and_self, Bool.not_false, Bool.not_true] <;> (try rfl)
      go_enter Tryd.func18, Tryd.ntmps18
      go_wp2
      go_ret
      exact ⟨rfl, by (repeat' (first | (with_reducible exact Up.refl _) | (with_reducible assumption) | (with_reducible refine Up.alloc ?_ _) | (with_reducible refine Up.drew ?_) | (with_reducible refine Up.drewN ?_ _) | (with_reducible refine Up.setCell ?_ ?_ _) | (with_reducible refine Up.call ?_ (by with_reducible assumption)) | go_size))⟩
    · obtain rfl : r = false := by rw [← HR.out]; simp only [bareC, HMb0.out, HTT.out, Bool.true_or, Bool.false_or, Bool.or_false, Bool.or_true, Bool.and_true, Bool.true_and, Bool.and_false, Bool.false_and, Bool.and_self, Bool.not_false, Bool.not_true] <;> (try rfl)
      go_enter Tryd.func18, Tryd.ntmps18
      go_wp2
      go_ret
      exact ⟨rfl, by (repeat' (first | (with_reducible exact Up.refl _) | (with_reducible assumption) | (with_reducible refine Up.alloc ?_ _) | (with_reducible refine Up.drew ?_) | (with_reducible refine Up.drewN ?_ _) | (with_reducible refine Up.setCell ?_ ?_ _) | (with_reducible refine Up.call ?_ (by with_reducible assumption)) | go_size))⟩

end Go.Proofs.YtaafelkdhahaoaaDoor.Pob
