/- The reference's sound of an object with parts. Its condition: an object that is not too large. -/
import Derived.Test.YtaafelkdhahaoaaDoorPobR
namespace Go.Proofs.YtaafelkdhahaoaaDoor.Pob
open Go.ChangeShapes Go.WideShapes Go.RowKit Go.Shelf
set_option linter.unusedVariables false
set_option linter.unusedSimpArgs false


/-- a key is one that may be -/
def keyOk (nine : Bool) (ks : List (List UInt8)) (i : Nat) : Bool := namedB (ks.getD i []) && !(nine && (ks.getD i [] == lenKey)) && !(ks.take i).contains (ks.getD i [])
def keysR (nine : Bool) (ks : List (List UInt8)) : Bool := (List.range ks.length).all (keyOk nine ks)
theorem keys_seven (ks : List (List UInt8)) : keysR false ks = distR ks := by
  unfold keysR distR
  congr 1
  funext i
  simp [keyOk, distOk]
theorem keys_nine (ks : List (List UInt8)) : keysR true ks = (distR ks && !ks.contains lenKey) := by
  rw [Bool.eq_iff_iff]
  simp only [keysR, distR, List.all_eq_true, List.mem_range, keyOk, distOk, Bool.and_eq_true, Bool.not_eq_true', Bool.true_and]
  constructor
  · intro h
    refine ⟨fun i hi => ⟨(h i hi).1.1, (h i hi).2⟩, ?_⟩
    rw [Bool.eq_false_iff, Ne, List.contains_iff_mem]
    intro hm
    obtain ⟨i, hi, e⟩ := List.mem_iff_getElem.1 hm
    have := (h i hi).1.2
    rw [List.getD_eq_getElem?_getD, List.getElem?_eq_getElem hi, Option.getD_some, e] at this
    simp at this
  · rintro ⟨h, hn⟩ i hi
    refine ⟨⟨(h i hi).1, ?_⟩, (h i hi).2⟩
    rw [Bool.eq_false_iff, Ne, List.contains_iff_mem] at hn
    rw [beq_eq_false_iff_ne]
    intro e
    apply hn
    rw [← e, List.getD_eq_getElem?_getD, List.getElem?_eq_getElem hi, Option.getD_some]
    exact List.getElem_mem hi
theorem not_in_step {ks : List (List UInt8)} {j : Nat} {s c : List UInt8} (hk : ks[j]? = some c) (h : (ks.take j).contains s = false) (hc : c ≠ s) : (ks.take (j + 1)).contains s = false := by
  rw [Bool.eq_false_iff, Ne, List.contains_iff_mem] at h ⊢
  rw [List.take_add_one, hk]
  simp only [Option.toList_some, List.mem_append, List.mem_singleton]
  rintro (h1 | h1)
  · exact h h1
  · exact hc h1.symm
theorem in_take {ks : List (List UInt8)} {j i : Nat} {s : List UInt8} (hk : ks[j]? = some s) (hj : j < i) : (ks.take i).contains s = true := by
  rw [List.contains_iff_mem]
  have : (ks.take i)[j]? = some s := by rw [List.getElem?_take, if_pos hj]; exact hk
  exact List.mem_of_getElem? this
set_option maxRecDepth 8000 in
set_option maxHeartbeats 2000000 in
theorem rsound_z6 (n : Int) (t : List UInt8) (ka : Option Addr) (kl kc : Nat) (la : Option Addr) (ll lc : Nat) (da : Option Addr) (dl dc : Nat) (s : Bool) (w : World) : Calls Tryd.prog 18 #[.agg #[.int .i64 6, .int .i64 n, .string ⟨t.toArray⟩, .slice ka kl kc, .slice la ll lc, .slice da dl dc], .int .i64 0, .bool s] w fun e w' => e = .returned (.bool false) ∧ Up w w' := by
  by_cases ht : t = []
  · subst ht
    go_enter Tryd.func18, Tryd.ntmps18
    go_wp2
    go_ret
    exact ⟨rfl, by (repeat' (first | (with_reducible exact Up.refl _) | (with_reducible assumption) | (with_reducible refine Up.alloc ?_ _) | (with_reducible refine Up.drew ?_) | (with_reducible refine Up.drewN ?_ _) | (with_reducible refine Up.setCell ?_ ?_ _) | (with_reducible refine Up.call ?_ (by with_reducible assumption)) | go_size))⟩
  · have ht2 : t.isEmpty = false := by simpa using ht
    go_enter Tryd.func18, Tryd.ntmps18
    go_wp2
    go_ret
    exact ⟨rfl, by (repeat' (first | (with_reducible exact Up.refl _) | (with_reducible assumption) | (with_reducible refine Up.alloc ?_ _) | (with_reducible refine Up.drew ?_) | (with_reducible refine Up.drewN ?_ _) | (with_reducible refine Up.setCell ?_ ?_ _) | (with_reducible refine Up.call ?_ (by with_reducible assumption)) | go_size))⟩

set_option maxRecDepth 8000 in
set_option maxHeartbeats 2000000 in
theorem rsound_z7 (n : Int) (t : List UInt8) (ka : Option Addr) (kl kc : Nat) (la : Option Addr) (ll lc : Nat) (da : Option Addr) (dl dc : Nat) (s : Bool) (w : World) : Calls Tryd.prog 18 #[.agg #[.int .i64 7, .int .i64 n, .string ⟨t.toArray⟩, .slice ka kl kc, .slice la ll lc, .slice da dl dc], .int .i64 0, .bool s] w fun e w' => e = .returned (.bool false) ∧ Up w w' := by
  by_cases ht : t = []
  · subst ht
    go_enter Tryd.func18, Tryd.ntmps18
    go_wp2
    go_ret
    exact ⟨rfl, by (repeat' (first | (with_reducible exact Up.refl _) | (with_reducible assumption) | (with_reducible refine Up.alloc ?_ _) | (with_reducible refine Up.drew ?_) | (with_reducible refine Up.drewN ?_ _) | (with_reducible refine Up.setCell ?_ ?_ _) | (with_reducible refine Up.call ?_ (by with_reducible assumption)) | go_size))⟩
  · have ht2 : t.isEmpty = false := by simpa using ht
    go_enter Tryd.func18, Tryd.ntmps18
    go_wp2
    go_ret
    exact ⟨rfl, by (repeat' (first | (with_reducible exact Up.refl _) | (with_reducible assumption) | (with_reducible refine Up.alloc ?_ _) | (with_reducible refine Up.drew ?_) | (with_reducible refine Up.drewN ?_ _) | (with_reducible refine Up.setCell ?_ ?_ _) | (with_reducible refine Up.call ?_ (by with_reducible assumption)) | go_size))⟩

set_option maxRecDepth 8000 in
set_option maxHeartbeats 2000000 in
theorem rsound_z9 (n : Int) (t : List UInt8) (ka : Option Addr) (kl kc : Nat) (la : Option Addr) (ll lc : Nat) (da : Option Addr) (dl dc : Nat) (s : Bool) (w : World) : Calls Tryd.prog 18 #[.agg #[.int .i64 9, .int .i64 n, .string ⟨t.toArray⟩, .slice ka kl kc, .slice la ll lc, .slice da dl dc], .int .i64 0, .bool s] w fun e w' => e = .returned (.bool false) ∧ Up w w' := by
  by_cases ht : t = []
  · subst ht
    go_enter Tryd.func18, Tryd.ntmps18
    go_wp2
    go_ret
    exact ⟨rfl, by (repeat' (first | (with_reducible exact Up.refl _) | (with_reducible assumption) | (with_reducible refine Up.alloc ?_ _) | (with_reducible refine Up.drew ?_) | (with_reducible refine Up.drewN ?_ _) | (with_reducible refine Up.setCell ?_ ?_ _) | (with_reducible refine Up.call ?_ (by with_reducible assumption)) | go_size))⟩
  · have ht2 : t.isEmpty = false := by simpa using ht
    go_enter Tryd.func18, Tryd.ntmps18
    go_wp2
    go_ret
    exact ⟨rfl, by (repeat' (first | (with_reducible exact Up.refl _) | (with_reducible assumption) | (with_reducible refine Up.alloc ?_ _) | (with_reducible refine Up.drew ?_) | (with_reducible refine Up.drewN ?_ _) | (with_reducible refine Up.setCell ?_ ?_ _) | (with_reducible refine Up.call ?_ (by with_reducible assumption)) | go_size))⟩
set_option maxRecDepth 8000 in
set_option maxHeartbeats 8000000 in
theorem rsound_k6 (n : Int) (t : List UInt8) (ka : Option Addr) (kl kc : Nat) (la : Option Addr) (ll lc : Nat) (da : Option Addr) (dl dc : Nat) (ks : List (List UInt8)) (l : List PO) (s : Bool) (m j : Nat) (ih : (∀ (c : PO) (W : World), POk W c → lightR j c = true → Calls Tryd.prog 18 #[.agg c.cells.toArray, .int .i64 (m : Int), .bool false] W fun e w' => e = .returned (.bool (sndR m false c)) ∧ Up W w')) (r : Bool) (hr : ((bareC n t kl ll dl false false false true false) && l.all (sndR m false)) = r) (w : World) (hk : Sl 1 kcells w ka kl kc ks) (hl : Sl 6 PO.cells w la ll lc l) (hc : ∀ c ∈ l, POk w c) (hj : ∀ c ∈ l, lightR j c = true) (hkl : ∀ s ∈ ks, s.length ≤ 300) (h3 : ll ≤ 300) (h5 : dl ≤ 5000) (hm : m ≤ 100) :
    Calls Tryd.prog 18 #[.agg #[.int .i64 6, .int .i64 n, .string ⟨t.toArray⟩, .slice ka kl kc, .slice la ll lc, .slice da dl dc], .int .i64 ((m + 1 : Nat) : Int), .bool s] w fun e w' => e = .returned (.bool r) ∧ Up w w' := by
  have HIH := Lib.hid ih
  have HK := Lib.hid hk
  have HL := Lib.hid hl
  have HC := Lib.hid hc
  have HJ := Lib.hid hj
  have HR := Lib.hid hr
  have HLN := Lib.hid hl.2.2.1
  have HKN := Lib.hid hk.2.2.1
  have HKL := Lib.hid hkl
  have l1 := hl.1
  have l2 := hl.2.1
  have k1 := hk.1
  have k2 := hk.2.1
  obtain ⟨q, hq⟩ : ∃ q : Int, ((m + 1 : Nat) : Int) = q := ⟨_, rfl⟩
  rw [hq]
  have hq0 : 1 ≤ q := by omega
  have hq1 : q ≤ 101 := by omega
  have HQ := Lib.hid (show q - 1 = (m : Int) by omega)
  clear hq ih hk hl hc hj hr hkl
  obtain ⟨b0, hb0⟩ : ∃ b, ((n : Int) == 0) = b := ⟨_, rfl⟩
  have HMb0 : Hid (decide (n = 0) = b0) := Lib.hid ((beqZ n).symm.trans hb0)
  obtain ⟨b2, hb2⟩ : ∃ b, ((kl : Int) == 0) = b := ⟨_, rfl⟩
  have HMb2 : Hid (decide (kl = 0) = b2) := Lib.hid ((beqN kl).symm.trans hb2)
  obtain ⟨b4, hb4⟩ : ∃ b, ((dl : Int) == 0) = b := ⟨_, rfl⟩
  have HMb4 : Hid (decide (dl = 0) = b4) := Lib.hid ((beqN dl).symm.trans hb4)
  by_cases ht : t = []
  · have HTT := Lib.hid (show decide (t = []) = true by simp [ht])
    subst ht
    cases b0
    · obtain rfl : r = false := by rw [← HR.out]; simp only [bareC, HMb0.out, HMb2.out, HMb4.out, HTT.out, Bool.true_or, Bool.false_or, Bool.or_false, Bool.or_true, Bool.and_true, Bool.true_and, Bool.and_false, Bool.false_and, Bool.and_self, Bool.not_false, Bool.not_true] <;> (try rfl)
      go_enter Tryd.func18, Tryd.ntmps18
      go_wp2
      go_ret
      exact ⟨rfl, by (repeat' (first | (with_reducible exact Up.refl _) | (with_reducible assumption) | (with_reducible refine Up.alloc ?_ _) | (with_reducible refine Up.drew ?_) | (with_reducible refine Up.drewN ?_ _) | (with_reducible refine Up.setCell ?_ ?_ _) | (with_reducible refine Up.call ?_ (by with_reducible assumption)) | go_size))⟩
    · cases b2
      · obtain rfl : r = false := by rw [← HR.out]; simp only [bareC, HMb0.out, HMb2.out, HMb4.out, HTT.out, Bool.true_or, Bool.false_or, Bool.or_false, Bool.or_true, Bool.and_true, Bool.true_and, Bool.and_false, Bool.false_and, Bool.and_self, Bool.not_false, Bool.not_true] <;> (try rfl)
        go_enter Tryd.func18, Tryd.ntmps18
        go_wp2
        go_ret
        exact ⟨rfl, by (repeat' (first | (with_reducible exact Up.refl _) | (with_reducible assumption) | (with_reducible refine Up.alloc ?_ _) | (with_reducible refine Up.drew ?_) | (with_reducible refine Up.drewN ?_ _) | (with_reducible refine Up.setCell ?_ ?_ _) | (with_reducible refine Up.call ?_ (by with_reducible assumption)) | go_size))⟩
      · cases b4
        · obtain rfl : r = false := by rw [← HR.out]; simp only [bareC, HMb0.out, HMb2.out, HMb4.out, HTT.out, Bool.true_or, Bool.false_or, Bool.or_false, Bool.or_true, Bool.and_true, Bool.true_and, Bool.and_false, Bool.false_and, Bool.and_self, Bool.not_false, Bool.not_true] <;> (try rfl)
          go_enter Tryd.func18, Tryd.ntmps18
          go_wp2
          go_ret
          exact ⟨rfl, by (repeat' (first | (with_reducible exact Up.refl _) | (with_reducible assumption) | (with_reducible refine Up.alloc ?_ _) | (with_reducible refine Up.drew ?_) | (with_reducible refine Up.drewN ?_ _) | (with_reducible refine Up.setCell ?_ ?_ _) | (with_reducible refine Up.call ?_ (by with_reducible assumption)) | go_size))⟩
        · have HREST := Lib.hid (show l.all (sndR m false) = r from by have h9 := HR.out; rw [← h9]; simp only [bareC, HMb0.out, HMb2.out, HMb4.out, HTT.out, Bool.true_or, Bool.false_or, Bool.or_false, Bool.or_true, Bool.and_true, Bool.true_and, Bool.and_false, Bool.false_and, Bool.and_self, Bool.not_false, Bool.not_true] <;> (try rfl))
          go_enter Tryd.func18, Tryd.ntmps18
          go_wp2
          go_loopw [14] (fun s14 wr => ∃ i : Nat, i ≤ ll ∧ s14 = .int .i64 i ∧ Hid ((l.take i).all (sndR m false) = true) ∧ Up (w.alloc (.cells #[.int .i64 6, .int .i64 n, .string ⟨#[]⟩, .slice ka kl kc, .slice la ll lc, .slice da dl dc] 26)) wr) (fun s14 _ => ll - (intOf s14).toNat)
          case atStart => exact ⟨0, Nat.zero_le _, rfl, Lib.hid rfl, Up.refl _⟩
          case round =>
            obtain ⟨i, hi, rfl, HA, hup⟩ := hrel
            have HUW : Hid (Up w wr) := Lib.hid ((Up.alloc (Up.refl w) _).call hup)
            have zr := hup.size
            simp at zr
            have x4 := (hup.cells.1 w.heap.size 4 (by simp)).trans (show (w.alloc (.cells #[.int .i64 6, .int .i64 n, .string ⟨#[]⟩, .slice ka kl kc, .slice la ll lc, .slice da dl dc] 26)).cell? ⟨w.heap.size, 4, none⟩ = some (.slice la ll lc) from (show Row (w.alloc (.cells #[.int .i64 6, .int .i64 n, .string ⟨#[]⟩, .slice ka kl kc, .slice la ll lc, .slice da dl dc] 26)) w.heap.size #[.int .i64 6, .int .i64 n, .string ⟨#[]⟩, .slice ka kl kc, .slice la ll lc, .slice da dl dc] by (repeat' (first | (with_reducible assumption) | (with_reducible refine Row.at _ _ ?_; (simp; done)) | (with_reducible refine Row.alloc ?_ _) | (with_reducible refine Row.drew ?_) | (with_reducible refine Row.drewN ?_ _) | (with_reducible refine Row.other ?_ (by first | (simp; done) | (simp; omega) | omega) _) | (with_reducible refine Row.up ?_ (by with_reducible assumption)) | (with_reducible refine Row.chg ?_ (by with_reducible assumption) (by first | (simp; done) | (simp; omega)))))).cell 4 rfl)
            by_cases hli : i < ll
            · obtain ⟨b, o, rfl, hb, hc⟩ := sl_some HL.out (by omega)
              obtain ⟨c, hc2⟩ : ∃ c, l[i]? = some c := ⟨_, List.getElem?_eq_getElem (by have := HLN.out; omega)⟩
              have HOK := Lib.hid (HC.out c (List.mem_of_getElem? hc2))
              have HLT := Lib.hid (HJ.out c (List.mem_of_getElem? hc2))
              obtain ⟨v, hv⟩ : ∃ v, sndR m false c = v := ⟨_, rfl⟩
              have HV := Lib.hid hv
              obtain ⟨ck, cn, ct, cka, ckl, ckc, cks, cla, cll, clc, cl, cda, cdl, cdc, cd⟩ := c
              obtain ⟨e0, e1, e2, e3, e4, e5⟩ := po_at hb hc HUW.out hc2
              have HREC : Hid (∀ W, Up w W → Calls Tryd.prog 18 #[.agg #[.int .i64 ck, .int .i64 cn, .string ⟨ct.toArray⟩, .slice cka ckl ckc, .slice cla cll clc, .slice cda cdl cdc], .int .i64 (m : Int), .bool false] W fun e w' => e = .returned (.bool v) ∧ Up W w') := Lib.hid (fun W hu => by rw [← HV.out]; exact HIH.out (.mk ck cn ct cka ckl ckc cks cla cll clc cl cda cdl cdc cd) W (HOK.out.up hu) HLT.out)
              have HC2 := Lib.hid hc2
              clear hc hc2 hv
              cases v
              · obtain rfl : r = false := by rw [← HREST.out, all_miss HC2.out HV.out]
                go_wp2_with (go_at_call 18; ((with_reducible rw [HQ.out]); (with_reducible refine (HREC.out _ (by first | exact HUW.out | exact Up.drew HUW.out)).mono ?_); rintro E w1 ⟨rfl, hu1⟩))
                go_ret
                exact ⟨rfl, HUW.out.call hu1⟩
              · go_wp2_with (go_at_call 18; ((with_reducible rw [HQ.out]); (with_reducible refine (HREC.out _ (by first | exact HUW.out | exact Up.drew HUW.out)).mono ?_); rintro E w1 ⟨rfl, hu1⟩))
                go_roundw
                case rel => exact ⟨i + 1, by omega, by go_num, Lib.hid (all_step HC2.out HA.out HV.out), hup.call hu1⟩
                case measure => simp [intOf]; omega
            · have hcast : decide (i < ll) = false := decide_eq_false hli
              obtain rfl : ll = i := by omega
              obtain rfl : r = true := by rw [← HREST.out, all_full HLN.out HA.out]
              go_wp2
              go_ret
              exact ⟨rfl, HUW.out⟩
  · have HTT := Lib.hid (show decide (t = []) = false by simp [ht])
    have ht2 : t.isEmpty = false := by simpa using ht
    cases b0
    · obtain rfl : r = false := by rw [← HR.out]; simp only [bareC, HMb0.out, HMb2.out, HMb4.out, HTT.out, Bool.true_or, Bool.false_or, Bool.or_false, Bool.or_true, Bool.and_true, Bool.true_and, Bool.and_false, Bool.false_and, Bool.and_self, Bool.not_false, Bool.not_true] <;> (try rfl)
      go_enter Tryd.func18, Tryd.ntmps18
      go_wp2
      go_ret
      exact ⟨rfl, by (repeat' (first | (with_reducible exact Up.refl _) | (with_reducible assumption) | (with_reducible refine Up.alloc ?_ _) | (with_reducible refine Up.drew ?_) | (with_reducible refine Up.drewN ?_ _) | (with_reducible refine Up.setCell ?_ ?_ _) | (with_reducible refine Up.call ?_ (by with_reducible assumption)) | go_size))⟩
    · obtain rfl : r = false := by rw [← HR.out]; simp only [bareC, HMb0.out, HMb2.out, HMb4.out, HTT.out, Bool.true_or, Bool.false_or, Bool.or_false, Bool.or_true, Bool.and_true, Bool.true_and, Bool.and_false, Bool.false_and, Bool.and_self, Bool.not_false, Bool.not_true] <;> (try rfl)
      go_enter Tryd.func18, Tryd.ntmps18
      go_wp2
      go_ret
      exact ⟨rfl, by (repeat' (first | (with_reducible exact Up.refl _) | (with_reducible assumption) | (with_reducible refine Up.alloc ?_ _) | (with_reducible refine Up.drew ?_) | (with_reducible refine Up.drewN ?_ _) | (with_reducible refine Up.setCell ?_ ?_ _) | (with_reducible refine Up.call ?_ (by with_reducible assumption)) | go_size))⟩

end Go.Proofs.YtaafelkdhahaoaaDoor.Pob
