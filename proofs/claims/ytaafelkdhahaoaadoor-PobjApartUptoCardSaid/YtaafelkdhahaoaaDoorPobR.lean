/- The reference's sound of an object without parts. Its condition: lengths. -/
import Derived.Test.YtaafelkdhahaoaaDoorPobS3
namespace Go.Proofs.YtaafelkdhahaoaaDoor.Pob
open Go.ChangeShapes Go.WideShapes Go.RowKit Go.Shelf
set_option linter.unusedVariables false
set_option linter.unusedSimpArgs false


theorem beqZ (n : Int) : ((n : Int) == 0) = decide (n = 0) := by by_cases h : n = 0 <;> simp [h]
theorem beqN (n : Nat) : (((n : Nat) : Int) == 0) = decide (n = 0) := by
  by_cases h : n = 0
  · subst h; rfl
  · rw [decide_eq_false h]
    simp [h]
set_option maxRecDepth 8000 in
theorem rname_calls (l : List UInt8) (v : Bool) (hv : namedB l = v) (hl : l.length ≤ 1000000) (w : World) :
    Calls Tryd.prog 37 #[.string ⟨l.toArray⟩] w fun e w' => e = .returned (.bool v) ∧ w = w' := by
  have ix := fun (j : Nat) (hj : j < l.length) => run_index_list (P := Tryd.prog) w 9 l .i64 j Tryd.underlying9 hj
  have HV := Lib.hid hv
  have HIX := Lib.hid ix
  clear hv ix
  go_enter Tryd.func37, Tryd.ntmps37
  go_wp2_with fail
  go_loop [3] (fun s3 => ∃ k : Nat, k ≤ l.length ∧ s3 = .int .i64 k ∧ Hid ((l.take k).contains 0 = false)) (fun s3 => l.length - (intOf s3).toNat)
  case atStart => exact ⟨0, Nat.zero_le _, rfl, Lib.hid rfl⟩
  case round =>
    obtain ⟨k, hk, rfl, HNO⟩ := hrel
    by_cases hlt : k < l.length
    · have d0 : decide (k < l.length) = true := decide_eq_true hlt
      have ik := HIX.out k hlt
      by_cases hz : l.getD k 0 = 0
      · obtain rfl : v = false := by
          rw [← HV.out]
          have hm : l.contains 0 = true := by
            rw [List.contains_iff_mem, List.mem_iff_getElem]
            exact ⟨k, hlt, by simpa [hlt] using hz⟩
          simp only [namedB, hm, Bool.not_true, Bool.and_false]
        rw [hz] at ik
        clear hz
        go_wp2
        go_ret
        exact ⟨rfl, rfl⟩
      · have z0 := ne_of (c := l.getD k 0) (k := 0) (z := 0) hz (by decide) rfl
        have HN2 := Lib.hid (show (l.take (k + 1)).contains 0 = false by
          rw [List.take_add_one, List.getElem?_eq_getElem hlt, Bool.eq_false_iff, Ne, List.contains_iff_mem, List.mem_append]
          rintro (h | h)
          · have := HNO.out
            rw [Bool.eq_false_iff, Ne, List.contains_iff_mem] at this
            exact this h
          · simp only [Option.toList_some, List.mem_singleton] at h
            exact hz (by simp [hlt, ← h]))
        generalize l.getD k 0 = c at ik z0 hz
        go_wp2
        go_round
        case rel => exact ⟨k + 1, by omega, by go_num, HN2⟩
        case measure => simp [intOf]; omega
    · have d0 : decide (k < l.length) = false := decide_eq_false hlt
      obtain rfl : k = l.length := by omega
      have HNO2 := Lib.hid (show l.contains 0 = false by have := HNO.out; rwa [List.take_length] at this)
      obtain ⟨n, hn⟩ : ∃ n, l.length = n := ⟨_, rfl⟩
      by_cases h1 : 1 ≤ l.length
      · have hne : l.isEmpty = false := by cases l with | nil => simp at h1 | cons a l => rfl
        have d1 : decide ((1 : Int) ≤ (l.length : Int)) = true := decide_eq_true (by omega)
        by_cases h2 : l.length ≤ 127
        · obtain rfl : v = true := by rw [← HV.out]; simp only [namedB, hne, HNO2.out, h2, decide_true, Bool.not_false, Bool.and_self]
          have d2 : decide ((l.length : Int) ≤ 127) = true := decide_eq_true (by omega)
          clear hn
          go_wp2
          go_ret
          exact ⟨rfl, rfl⟩
        · obtain rfl : v = false := by rw [← HV.out]; simp only [namedB, h2, decide_false, Bool.and_false, Bool.false_and]
          have d2 : decide ((l.length : Int) ≤ 127) = false := decide_eq_false (by omega)
          clear hn
          go_wp2
          go_ret
          exact ⟨rfl, rfl⟩
      · obtain rfl : l = [] := by cases l with | nil => rfl | cons a l => simp at h1
        obtain rfl : v = false := by rw [← HV.out]; rfl
        clear hn
        go_wp2
        go_ret
        exact ⟨rfl, rfl⟩
theorem rfits_pob (n : Int) (r : Bool) (hr : (decide (-2147483648 ≤ n) && decide (n ≤ 2147483647)) = r) (w : World) : Calls Tryd.prog 36 #[.int .i64 n] w fun e w' => e = .returned (.bool r) ∧ w = w' := by
  by_cases h1 : -2147483648 ≤ n
  · by_cases h2 : n ≤ 2147483647
    · obtain rfl : r = true := by rw [← hr]; simp [h1, h2]
      clear hr
      go_enter Tryd.func36, Tryd.ntmps36
      go_wp2
      go_ret
      exact ⟨rfl, rfl⟩
    · obtain rfl : r = false := by rw [← hr]; simp [h2]
      clear hr
      have d2 : decide (n ≤ 2147483647) = false := decide_eq_false h2
      clear h2
      go_enter Tryd.func36, Tryd.ntmps36
      go_wp2
      go_ret
      exact ⟨rfl, rfl⟩
  · obtain rfl : r = false := by rw [← hr]; simp [h1]
    clear hr
    have d2 : decide (-2147483648 ≤ n) = false := decide_eq_false h1
    clear h1
    go_enter Tryd.func36, Tryd.ntmps36
    go_wp2
    go_ret
    exact ⟨rfl, rfl⟩
set_option maxRecDepth 8000 in
set_option maxHeartbeats 4000000 in
theorem rsound_k0 (n : Int) (t : List UInt8) (ka : Option Addr) (kl kc : Nat) (la : Option Addr) (ll lc : Nat) (da : Option Addr) (dl dc : Nat) (q : Int) (s : Bool) (r : Bool) (hr : (bareC n t kl ll dl false false false false false) = r) (w : World) (hl : t.length ≤ 70000) :
    Calls Tryd.prog 18 #[.agg #[.int .i64 0, .int .i64 n, .string ⟨t.toArray⟩, .slice ka kl kc, .slice la ll lc, .slice da dl dc], .int .i64 q, .bool s] w fun e w' => e = .returned (.bool r) ∧ Up w w' := by
  have HR := Lib.hid hr
  clear hr
  obtain ⟨b0, hb0⟩ : ∃ b, ((n : Int) == 0) = b := ⟨_, rfl⟩
  have HMb0 : Hid (decide (n = 0) = b0) := Lib.hid ((beqZ n).symm.trans hb0)
  obtain ⟨b2, hb2⟩ : ∃ b, ((kl : Int) == 0) = b := ⟨_, rfl⟩
  have HMb2 : Hid (decide (kl = 0) = b2) := Lib.hid ((beqN kl).symm.trans hb2)
  obtain ⟨b3, hb3⟩ : ∃ b, ((ll : Int) == 0) = b := ⟨_, rfl⟩
  have HMb3 : Hid (decide (ll = 0) = b3) := Lib.hid ((beqN ll).symm.trans hb3)
  obtain ⟨b4, hb4⟩ : ∃ b, ((dl : Int) == 0) = b := ⟨_, rfl⟩
  have HMb4 : Hid (decide (dl = 0) = b4) := Lib.hid ((beqN dl).symm.trans hb4)
  by_cases ht : t = []
  · have HTT := Lib.hid (show decide (t = []) = true by simp [ht])
    subst ht
    cases b0
    · obtain rfl : r = false := by rw [← HR.out]; simp only [bareC, HMb0.out, HMb2.out, HMb3.out, HMb4.out, HTT.out, Bool.true_or, Bool.false_or, Bool.or_false, Bool.or_true, Bool.and_true, Bool.true_and, Bool.and_false, Bool.false_and, Bool.and_self, Bool.not_false, Bool.not_true] <;> (try rfl)
      go_enter Tryd.func18, Tryd.ntmps18
      go_wp2
      go_ret
      exact ⟨rfl, by (repeat' (first | (with_reducible exact Up.refl _) | (with_reducible assumption) | (with_reducible refine Up.alloc ?_ _) | (with_reducible refine Up.drew ?_) | (with_reducible refine Up.drewN ?_ _) | (with_reducible refine Up.setCell ?_ ?_ _) | (with_reducible refine Up.call ?_ (by with_reducible assumption)) | go_size))⟩
    · cases b2
      · obtain rfl : r = false := by rw [← HR.out]; simp only [bareC, HMb0.out, HMb2.out, HMb3.out, HMb4.out, HTT.out, Bool.true_or, Bool.false_or, Bool.or_false, Bool.or_true, Bool.and_true, Bool.true_and, Bool.and_false, Bool.false_and, Bool.and_self, Bool.not_false, Bool.not_true] <;> (try rfl)
        go_enter Tryd.func18, Tryd.ntmps18
        go_wp2
        go_ret
        exact ⟨rfl, by (repeat' (first | (with_reducible exact Up.refl _) | (with_reducible assumption) | (with_reducible refine Up.alloc ?_ _) | (with_reducible refine Up.drew ?_) | (with_reducible refine Up.drewN ?_ _) | (with_reducible refine Up.setCell ?_ ?_ _) | (with_reducible refine Up.call ?_ (by with_reducible assumption)) | go_size))⟩
      · cases b3
        · obtain rfl : r = false := by rw [← HR.out]; simp only [bareC, HMb0.out, HMb2.out, HMb3.out, HMb4.out, HTT.out, Bool.true_or, Bool.false_or, Bool.or_false, Bool.or_true, Bool.and_true, Bool.true_and, Bool.and_false, Bool.false_and, Bool.and_self, Bool.not_false, Bool.not_true] <;> (try rfl)
          go_enter Tryd.func18, Tryd.ntmps18
          go_wp2
          go_ret
          exact ⟨rfl, by (repeat' (first | (with_reducible exact Up.refl _) | (with_reducible assumption) | (with_reducible refine Up.alloc ?_ _) | (with_reducible refine Up.drew ?_) | (with_reducible refine Up.drewN ?_ _) | (with_reducible refine Up.setCell ?_ ?_ _) | (with_reducible refine Up.call ?_ (by with_reducible assumption)) | go_size))⟩
        · cases b4
          · obtain rfl : r = false := by rw [← HR.out]; simp only [bareC, HMb0.out, HMb2.out, HMb3.out, HMb4.out, HTT.out, Bool.true_or, Bool.false_or, Bool.or_false, Bool.or_true, Bool.and_true, Bool.true_and, Bool.and_false, Bool.false_and, Bool.and_self, Bool.not_false, Bool.not_true] <;> (try rfl)
            go_enter Tryd.func18, Tryd.ntmps18
            go_wp2
            go_ret
            exact ⟨rfl, by (repeat' (first | (with_reducible exact Up.refl _) | (with_reducible assumption) | (with_reducible refine Up.alloc ?_ _) | (with_reducible refine Up.drew ?_) | (with_reducible refine Up.drewN ?_ _) | (with_reducible refine Up.setCell ?_ ?_ _) | (with_reducible refine Up.call ?_ (by with_reducible assumption)) | go_size))⟩
          · obtain rfl : r = true := by rw [← HR.out]; simp only [bareC, HMb0.out, HMb2.out, HMb3.out, HMb4.out, HTT.out, Bool.true_or, Bool.false_or, Bool.or_false, Bool.or_true, Bool.and_true, Bool.true_and, Bool.and_false, Bool.false_and, Bool.and_self, Bool.not_false, Bool.not_true] <;> (try rfl)
            go_enter Tryd.func18, Tryd.ntmps18
            go_wp2
            go_ret
            exact ⟨rfl, by (repeat' (first | (with_reducible exact Up.refl _) | (with_reducible assumption) | (with_reducible refine Up.alloc ?_ _) | (with_reducible refine Up.drew ?_) | (with_reducible refine Up.drewN ?_ _) | (with_reducible refine Up.setCell ?_ ?_ _) | (with_reducible refine Up.call ?_ (by with_reducible assumption)) | go_size))⟩
  · have HTT := Lib.hid (show decide (t = []) = false by simp [ht])
    have ht2 : t.isEmpty = false := by simpa using ht
    cases b0
    · obtain rfl : r = false := by rw [← HR.out]; simp only [bareC, HMb0.out, HMb2.out, HMb3.out, HMb4.out, HTT.out, Bool.true_or, Bool.false_or, Bool.or_false, Bool.or_true, Bool.and_true, Bool.true_and, Bool.and_false, Bool.false_and, Bool.and_self, Bool.not_false, Bool.not_true] <;> (try rfl)
      go_enter Tryd.func18, Tryd.ntmps18
      go_wp2
      go_ret
      exact ⟨rfl, by (repeat' (first | (with_reducible exact Up.refl _) | (with_reducible assumption) | (with_reducible refine Up.alloc ?_ _) | (with_reducible refine Up.drew ?_) | (with_reducible refine Up.drewN ?_ _) | (with_reducible refine Up.setCell ?_ ?_ _) | (with_reducible refine Up.call ?_ (by with_reducible assumption)) | go_size))⟩
    · obtain rfl : r = false := by rw [← HR.out]; simp only [bareC, HMb0.out, HMb2.out, HMb3.out, HMb4.out, HTT.out, Bool.true_or, Bool.false_or, Bool.or_false, Bool.or_true, Bool.and_true, Bool.true_and, Bool.and_false, Bool.false_and, Bool.and_self, Bool.not_false, Bool.not_true] <;> (try rfl)
      go_enter Tryd.func18, Tryd.ntmps18
      go_wp2
      go_ret
      exact ⟨rfl, by (repeat' (first | (with_reducible exact Up.refl _) | (with_reducible assumption) | (with_reducible refine Up.alloc ?_ _) | (with_reducible refine Up.drew ?_) | (with_reducible refine Up.drewN ?_ _) | (with_reducible refine Up.setCell ?_ ?_ _) | (with_reducible refine Up.call ?_ (by with_reducible assumption)) | go_size))⟩

set_option maxRecDepth 8000 in
set_option maxHeartbeats 4000000 in
theorem rsound_k1 (n : Int) (t : List UInt8) (ka : Option Addr) (kl kc : Nat) (la : Option Addr) (ll lc : Nat) (da : Option Addr) (dl dc : Nat) (q : Int) (s : Bool) (r : Bool) (hr : (bareC n t kl ll dl true false false false false && (decide (n = 0) || decide (n = 1))) = r) (w : World) (hl : t.length ≤ 70000) :
    Calls Tryd.prog 18 #[.agg #[.int .i64 1, .int .i64 n, .string ⟨t.toArray⟩, .slice ka kl kc, .slice la ll lc, .slice da dl dc], .int .i64 q, .bool s] w fun e w' => e = .returned (.bool r) ∧ Up w w' := by
  have HR := Lib.hid hr
  clear hr
  obtain ⟨b2, hb2⟩ : ∃ b, ((kl : Int) == 0) = b := ⟨_, rfl⟩
  have HMb2 : Hid (decide (kl = 0) = b2) := Lib.hid ((beqN kl).symm.trans hb2)
  obtain ⟨b3, hb3⟩ : ∃ b, ((ll : Int) == 0) = b := ⟨_, rfl⟩
  have HMb3 : Hid (decide (ll = 0) = b3) := Lib.hid ((beqN ll).symm.trans hb3)
  obtain ⟨b4, hb4⟩ : ∃ b, ((dl : Int) == 0) = b := ⟨_, rfl⟩
  have HMb4 : Hid (decide (dl = 0) = b4) := Lib.hid ((beqN dl).symm.trans hb4)
  by_cases ht : t = []
  · have HTT := Lib.hid (show decide (t = []) = true by simp [ht])
    subst ht
    by_cases n0 : n = 0
    · have n1 : (decide (n = 0) || decide (n = 1)) = true := by simp [n0]
      have HN1 := Lib.hid n1
      subst n0
      clear n1
      cases b2
      · obtain rfl : r = false := by rw [← HR.out]; simp only [bareC, HMb2.out, HMb3.out, HMb4.out, HTT.out, HN1.out, Bool.true_or, Bool.false_or, Bool.or_false, Bool.or_true, Bool.and_true, Bool.true_and, Bool.and_false, Bool.false_and, Bool.and_self, Bool.not_false, Bool.not_true] <;> (try rfl)
        go_enter Tryd.func18, Tryd.ntmps18
        go_wp2
        go_ret
        exact ⟨rfl, by (repeat' (first | (with_reducible exact Up.refl _) | (with_reducible assumption) | (with_reducible refine Up.alloc ?_ _) | (with_reducible refine Up.drew ?_) | (with_reducible refine Up.drewN ?_ _) | (with_reducible refine Up.setCell ?_ ?_ _) | (with_reducible refine Up.call ?_ (by with_reducible assumption)) | go_size))⟩
      · cases b3
        · obtain rfl : r = false := by rw [← HR.out]; simp only [bareC, HMb2.out, HMb3.out, HMb4.out, HTT.out, HN1.out, Bool.true_or, Bool.false_or, Bool.or_false, Bool.or_true, Bool.and_true, Bool.true_and, Bool.and_false, Bool.false_and, Bool.and_self, Bool.not_false, Bool.not_true] <;> (try rfl)
          go_enter Tryd.func18, Tryd.ntmps18
          go_wp2
          go_ret
          exact ⟨rfl, by (repeat' (first | (with_reducible exact Up.refl _) | (with_reducible assumption) | (with_reducible refine Up.alloc ?_ _) | (with_reducible refine Up.drew ?_) | (with_reducible refine Up.drewN ?_ _) | (with_reducible refine Up.setCell ?_ ?_ _) | (with_reducible refine Up.call ?_ (by with_reducible assumption)) | go_size))⟩
        · cases b4
          · obtain rfl : r = false := by rw [← HR.out]; simp only [bareC, HMb2.out, HMb3.out, HMb4.out, HTT.out, HN1.out, Bool.true_or, Bool.false_or, Bool.or_false, Bool.or_true, Bool.and_true, Bool.true_and, Bool.and_false, Bool.false_and, Bool.and_self, Bool.not_false, Bool.not_true] <;> (try rfl)
            go_enter Tryd.func18, Tryd.ntmps18
            go_wp2
            go_ret
            exact ⟨rfl, by (repeat' (first | (with_reducible exact Up.refl _) | (with_reducible assumption) | (with_reducible refine Up.alloc ?_ _) | (with_reducible refine Up.drew ?_) | (with_reducible refine Up.drewN ?_ _) | (with_reducible refine Up.setCell ?_ ?_ _) | (with_reducible refine Up.call ?_ (by with_reducible assumption)) | go_size))⟩
          · obtain rfl : r = true := by rw [← HR.out]; simp only [bareC, HMb2.out, HMb3.out, HMb4.out, HTT.out, HN1.out, Bool.true_or, Bool.false_or, Bool.or_false, Bool.or_true, Bool.and_true, Bool.true_and, Bool.and_false, Bool.false_and, Bool.and_self, Bool.not_false, Bool.not_true] <;> (try rfl)
            go_enter Tryd.func18, Tryd.ntmps18
            go_wp2
            go_ret
            exact ⟨rfl, by (repeat' (first | (with_reducible exact Up.refl _) | (with_reducible assumption) | (with_reducible refine Up.alloc ?_ _) | (with_reducible refine Up.drew ?_) | (with_reducible refine Up.drewN ?_ _) | (with_reducible refine Up.setCell ?_ ?_ _) | (with_reducible refine Up.call ?_ (by with_reducible assumption)) | go_size))⟩
    by_cases n2 : n = 1
    · have n1 : (decide (n = 0) || decide (n = 1)) = true := by simp [n2]
      have HN1 := Lib.hid n1
      subst n2
      clear n1
      cases b2
      · obtain rfl : r = false := by rw [← HR.out]; simp only [bareC, HMb2.out, HMb3.out, HMb4.out, HTT.out, HN1.out, Bool.true_or, Bool.false_or, Bool.or_false, Bool.or_true, Bool.and_true, Bool.true_and, Bool.and_false, Bool.false_and, Bool.and_self, Bool.not_false, Bool.not_true] <;> (try rfl)
        go_enter Tryd.func18, Tryd.ntmps18
        go_wp2
        go_ret
        exact ⟨rfl, by (repeat' (first | (with_reducible exact Up.refl _) | (with_reducible assumption) | (with_reducible refine Up.alloc ?_ _) | (with_reducible refine Up.drew ?_) | (with_reducible refine Up.drewN ?_ _) | (with_reducible refine Up.setCell ?_ ?_ _) | (with_reducible refine Up.call ?_ (by with_reducible assumption)) | go_size))⟩
      · cases b3
        · obtain rfl : r = false := by rw [← HR.out]; simp only [bareC, HMb2.out, HMb3.out, HMb4.out, HTT.out, HN1.out, Bool.true_or, Bool.false_or, Bool.or_false, Bool.or_true, Bool.and_true, Bool.true_and, Bool.and_false, Bool.false_and, Bool.and_self, Bool.not_false, Bool.not_true] <;> (try rfl)
          go_enter Tryd.func18, Tryd.ntmps18
          go_wp2
          go_ret
          exact ⟨rfl, by (repeat' (first | (with_reducible exact Up.refl _) | (with_reducible assumption) | (with_reducible refine Up.alloc ?_ _) | (with_reducible refine Up.drew ?_) | (with_reducible refine Up.drewN ?_ _) | (with_reducible refine Up.setCell ?_ ?_ _) | (with_reducible refine Up.call ?_ (by with_reducible assumption)) | go_size))⟩
        · cases b4
          · obtain rfl : r = false := by rw [← HR.out]; simp only [bareC, HMb2.out, HMb3.out, HMb4.out, HTT.out, HN1.out, Bool.true_or, Bool.false_or, Bool.or_false, Bool.or_true, Bool.and_true, Bool.true_and, Bool.and_false, Bool.false_and, Bool.and_self, Bool.not_false, Bool.not_true] <;> (try rfl)
            go_enter Tryd.func18, Tryd.ntmps18
            go_wp2
            go_ret
            exact ⟨rfl, by (repeat' (first | (with_reducible exact Up.refl _) | (with_reducible assumption) | (with_reducible refine Up.alloc ?_ _) | (with_reducible refine Up.drew ?_) | (with_reducible refine Up.drewN ?_ _) | (with_reducible refine Up.setCell ?_ ?_ _) | (with_reducible refine Up.call ?_ (by with_reducible assumption)) | go_size))⟩
          · obtain rfl : r = true := by rw [← HR.out]; simp only [bareC, HMb2.out, HMb3.out, HMb4.out, HTT.out, HN1.out, Bool.true_or, Bool.false_or, Bool.or_false, Bool.or_true, Bool.and_true, Bool.true_and, Bool.and_false, Bool.false_and, Bool.and_self, Bool.not_false, Bool.not_true] <;> (try rfl)
            go_enter Tryd.func18, Tryd.ntmps18
            go_wp2
            go_ret
            exact ⟨rfl, by (repeat' (first | (with_reducible exact Up.refl _) | (with_reducible assumption) | (with_reducible refine Up.alloc ?_ _) | (with_reducible refine Up.drew ?_) | (with_reducible refine Up.drewN ?_ _) | (with_reducible refine Up.setCell ?_ ?_ _) | (with_reducible refine Up.call ?_ (by with_reducible assumption)) | go_size))⟩
    have n1 : (decide (n = 0) || decide (n = 1)) = false := by simp [n0, n2]
    have HN1 := Lib.hid n1
    obtain rfl : r = false := by rw [← HR.out]; simp only [bareC, HMb2.out, HMb3.out, HMb4.out, HTT.out, HN1.out, Bool.true_or, Bool.false_or, Bool.or_false, Bool.or_true, Bool.and_true, Bool.true_and, Bool.and_false, Bool.false_and, Bool.and_self, Bool.not_false, Bool.not_true] <;> (try rfl)
    have c0 : ((n : Int) == 0) = false := by simp [n0]
    have c1 : ((n : Int) == 1) = false := by simp [n2]
    clear n0 n1 n2
    go_enter Tryd.func18, Tryd.ntmps18
    go_wp2
    go_ret
    exact ⟨rfl, by (repeat' (first | (with_reducible exact Up.refl _) | (with_reducible assumption) | (with_reducible refine Up.alloc ?_ _) | (with_reducible refine Up.drew ?_) | (with_reducible refine Up.drewN ?_ _) | (with_reducible refine Up.setCell ?_ ?_ _) | (with_reducible refine Up.call ?_ (by with_reducible assumption)) | go_size))⟩
  · have HTT := Lib.hid (show decide (t = []) = false by simp [ht])
    have ht2 : t.isEmpty = false := by simpa using ht
    by_cases n0 : n = 0
    · have n1 : (decide (n = 0) || decide (n = 1)) = true := by simp [n0]
      have HN1 := Lib.hid n1
      subst n0
      clear n1
      obtain rfl : r = false := by rw [← HR.out]; simp only [bareC, HMb2.out, HMb3.out, HMb4.out, HTT.out, HN1.out, Bool.true_or, Bool.false_or, Bool.or_false, Bool.or_true, Bool.and_true, Bool.true_and, Bool.and_false, Bool.false_and, Bool.and_self, Bool.not_false, Bool.not_true] <;> (try rfl)
      go_enter Tryd.func18, Tryd.ntmps18
      go_wp2
      go_ret
      exact ⟨rfl, by (repeat' (first | (with_reducible exact Up.refl _) | (with_reducible assumption) | (with_reducible refine Up.alloc ?_ _) | (with_reducible refine Up.drew ?_) | (with_reducible refine Up.drewN ?_ _) | (with_reducible refine Up.setCell ?_ ?_ _) | (with_reducible refine Up.call ?_ (by with_reducible assumption)) | go_size))⟩
    by_cases n2 : n = 1
    · have n1 : (decide (n = 0) || decide (n = 1)) = true := by simp [n2]
      have HN1 := Lib.hid n1
      subst n2
      clear n1
      obtain rfl : r = false := by rw [← HR.out]; simp only [bareC, HMb2.out, HMb3.out, HMb4.out, HTT.out, HN1.out, Bool.true_or, Bool.false_or, Bool.or_false, Bool.or_true, Bool.and_true, Bool.true_and, Bool.and_false, Bool.false_and, Bool.and_self, Bool.not_false, Bool.not_true] <;> (try rfl)
      go_enter Tryd.func18, Tryd.ntmps18
      go_wp2
      go_ret
      exact ⟨rfl, by (repeat' (first | (with_reducible exact Up.refl _) | (with_reducible assumption) | (with_reducible refine Up.alloc ?_ _) | (with_reducible refine Up.drew ?_) | (with_reducible refine Up.drewN ?_ _) | (with_reducible refine Up.setCell ?_ ?_ _) | (with_reducible refine Up.call ?_ (by with_reducible assumption)) | go_size))⟩
    have n1 : (decide (n = 0) || decide (n = 1)) = false := by simp [n0, n2]
    have HN1 := Lib.hid n1
    obtain rfl : r = false := by rw [← HR.out]; simp only [bareC, HMb2.out, HMb3.out, HMb4.out, HTT.out, HN1.out, Bool.true_or, Bool.false_or, Bool.or_false, Bool.or_true, Bool.and_true, Bool.true_and, Bool.and_false, Bool.false_and, Bool.and_self, Bool.not_false, Bool.not_true] <;> (try rfl)
    have c0 : ((n : Int) == 0) = false := by simp [n0]
    have c1 : ((n : Int) == 1) = false := by simp [n2]
    clear n0 n1 n2
    go_enter Tryd.func18, Tryd.ntmps18
    go_wp2
    go_ret
    exact ⟨rfl, by (repeat' (first | (with_reducible exact Up.refl _) | (with_reducible assumption) | (with_reducible refine Up.alloc ?_ _) | (with_reducible refine Up.drew ?_) | (with_reducible refine Up.drewN ?_ _) | (with_reducible refine Up.setCell ?_ ?_ _) | (with_reducible refine Up.call ?_ (by with_reducible assumption)) | go_size))⟩

set_option maxRecDepth 8000 in
set_option maxHeartbeats 4000000 in
theorem rsound_k2 (n : Int) (t : List UInt8) (ka : Option Addr) (kl kc : Nat) (la : Option Addr) (ll lc : Nat) (da : Option Addr) (dl dc : Nat) (q : Int) (s : Bool) (r : Bool) (hr : (bareC n t kl ll dl true false false false false && decide (-2147483648 ≤ n) && decide (n ≤ 2147483647)) = r) (w : World) (hl : t.length ≤ 70000) :
    Calls Tryd.prog 18 #[.agg #[.int .i64 2, .int .i64 n, .string ⟨t.toArray⟩, .slice ka kl kc, .slice la ll lc, .slice da dl dc], .int .i64 q, .bool s] w fun e w' => e = .returned (.bool r) ∧ Up w w' := by
  have HR := Lib.hid hr
  clear hr
  obtain ⟨b2, hb2⟩ : ∃ b, ((kl : Int) == 0) = b := ⟨_, rfl⟩
  have HMb2 : Hid (decide (kl = 0) = b2) := Lib.hid ((beqN kl).symm.trans hb2)
  obtain ⟨b3, hb3⟩ : ∃ b, ((ll : Int) == 0) = b := ⟨_, rfl⟩
  have HMb3 : Hid (decide (ll = 0) = b3) := Lib.hid ((beqN ll).symm.trans hb3)
  obtain ⟨b4, hb4⟩ : ∃ b, ((dl : Int) == 0) = b := ⟨_, rfl⟩
  have HMb4 : Hid (decide (dl = 0) = b4) := Lib.hid ((beqN dl).symm.trans hb4)
  by_cases ht : t = []
  · have HTT := Lib.hid (show decide (t = []) = true by simp [ht])
    subst ht
    obtain ⟨u, hu⟩ : ∃ u, (decide (-2147483648 ≤ n) && decide (n ≤ 2147483647)) = u := ⟨_, rfl⟩
    have HF := Lib.hid hu
    clear hu
    cases u
    · obtain rfl : r = false := by rw [← HR.out]; simp only [bareC, HMb2.out, HMb3.out, HMb4.out, HTT.out, Bool.and_assoc, HF.out, Bool.true_or, Bool.false_or, Bool.or_false, Bool.or_true, Bool.and_true, Bool.true_and, Bool.and_false, Bool.false_and, Bool.and_self, Bool.not_false, Bool.not_true] <;> (try rfl)
      go_enter Tryd.func18, Tryd.ntmps18
      go_wp2_with (go_at_call 36; ((with_reducible refine (rfits_pob n _ HF.out _).mono ?_); rintro e w2 ⟨rfl, rfl⟩))
      go_ret
      exact ⟨rfl, by (repeat' (first | (with_reducible exact Up.refl _) | (with_reducible assumption) | (with_reducible refine Up.alloc ?_ _) | (with_reducible refine Up.drew ?_) | (with_reducible refine Up.drewN ?_ _) | (with_reducible refine Up.setCell ?_ ?_ _) | (with_reducible refine Up.call ?_ (by with_reducible assumption)) | go_size))⟩
    · cases b2
      · obtain rfl : r = false := by rw [← HR.out]; simp only [bareC, HMb2.out, HMb3.out, HMb4.out, HTT.out, Bool.and_assoc, HF.out, Bool.true_or, Bool.false_or, Bool.or_false, Bool.or_true, Bool.and_true, Bool.true_and, Bool.and_false, Bool.false_and, Bool.and_self, Bool.not_false, Bool.not_true] <;> (try rfl)
        go_enter Tryd.func18, Tryd.ntmps18
        go_wp2_with (go_at_call 36; ((with_reducible refine (rfits_pob n _ HF.out _).mono ?_); rintro e w2 ⟨rfl, rfl⟩))
        go_ret
        exact ⟨rfl, by (repeat' (first | (with_reducible exact Up.refl _) | (with_reducible assumption) | (with_reducible refine Up.alloc ?_ _) | (with_reducible refine Up.drew ?_) | (with_reducible refine Up.drewN ?_ _) | (with_reducible refine Up.setCell ?_ ?_ _) | (with_reducible refine Up.call ?_ (by with_reducible assumption)) | go_size))⟩
      · cases b3
        · obtain rfl : r = false := by rw [← HR.out]; simp only [bareC, HMb2.out, HMb3.out, HMb4.out, HTT.out, Bool.and_assoc, HF.out, Bool.true_or, Bool.false_or, Bool.or_false, Bool.or_true, Bool.and_true, Bool.true_and, Bool.and_false, Bool.false_and, Bool.and_self, Bool.not_false, Bool.not_true] <;> (try rfl)
          go_enter Tryd.func18, Tryd.ntmps18
          go_wp2_with (go_at_call 36; ((with_reducible refine (rfits_pob n _ HF.out _).mono ?_); rintro e w2 ⟨rfl, rfl⟩))
          go_ret
          exact ⟨rfl, by (repeat' (first | (with_reducible exact Up.refl _) | (with_reducible assumption) | (with_reducible refine Up.alloc ?_ _) | (with_reducible refine Up.drew ?_) | (with_reducible refine Up.drewN ?_ _) | (with_reducible refine Up.setCell ?_ ?_ _) | (with_reducible refine Up.call ?_ (by with_reducible assumption)) | go_size))⟩
        · cases b4
          · obtain rfl : r = false := by rw [← HR.out]; simp only [bareC, HMb2.out, HMb3.out, HMb4.out, HTT.out, Bool.and_assoc, HF.out, Bool.true_or, Bool.false_or, Bool.or_false, Bool.or_true, Bool.and_true, Bool.true_and, Bool.and_false, Bool.false_and, Bool.and_self, Bool.not_false, Bool.not_true] <;> (try rfl)
            go_enter Tryd.func18, Tryd.ntmps18
            go_wp2_with (go_at_call 36; ((with_reducible refine (rfits_pob n _ HF.out _).mono ?_); rintro e w2 ⟨rfl, rfl⟩))
            go_ret
            exact ⟨rfl, by (repeat' (first | (with_reducible exact Up.refl _) | (with_reducible assumption) | (with_reducible refine Up.alloc ?_ _) | (with_reducible refine Up.drew ?_) | (with_reducible refine Up.drewN ?_ _) | (with_reducible refine Up.setCell ?_ ?_ _) | (with_reducible refine Up.call ?_ (by with_reducible assumption)) | go_size))⟩
          · obtain rfl : r = true := by rw [← HR.out]; simp only [bareC, HMb2.out, HMb3.out, HMb4.out, HTT.out, Bool.and_assoc, HF.out, Bool.true_or, Bool.false_or, Bool.or_false, Bool.or_true, Bool.and_true, Bool.true_and, Bool.and_false, Bool.false_and, Bool.and_self, Bool.not_false, Bool.not_true] <;> (try rfl)
            go_enter Tryd.func18, Tryd.ntmps18
            go_wp2_with (go_at_call 36; ((with_reducible refine (rfits_pob n _ HF.out _).mono ?_); rintro e w2 ⟨rfl, rfl⟩))
            go_ret
            exact ⟨rfl, by (repeat' (first | (with_reducible exact Up.refl _) | (with_reducible assumption) | (with_reducible refine Up.alloc ?_ _) | (with_reducible refine Up.drew ?_) | (with_reducible refine Up.drewN ?_ _) | (with_reducible refine Up.setCell ?_ ?_ _) | (with_reducible refine Up.call ?_ (by with_reducible assumption)) | go_size))⟩
  · have HTT := Lib.hid (show decide (t = []) = false by simp [ht])
    have ht2 : t.isEmpty = false := by simpa using ht
    obtain ⟨u, hu⟩ : ∃ u, (decide (-2147483648 ≤ n) && decide (n ≤ 2147483647)) = u := ⟨_, rfl⟩
    have HF := Lib.hid hu
    clear hu
    cases u
    · obtain rfl : r = false := by rw [← HR.out]; simp only [bareC, HMb2.out, HMb3.out, HMb4.out, HTT.out, Bool.and_assoc, HF.out, Bool.true_or, Bool.false_or, Bool.or_false, Bool.or_true, Bool.and_true, Bool.true_and, Bool.and_false, Bool.false_and, Bool.and_self, Bool.not_false, Bool.not_true] <;> (try rfl)
      go_enter Tryd.func18, Tryd.ntmps18
      go_wp2_with (go_at_call 36; ((with_reducible refine (rfits_pob n _ HF.out _).mono ?_); rintro e w2 ⟨rfl, rfl⟩))
      go_ret
      exact ⟨rfl, by (repeat' (first | (with_reducible exact Up.refl _) | (with_reducible assumption) | (with_reducible refine Up.alloc ?_ _) | (with_reducible refine Up.drew ?_) | (with_reducible refine Up.drewN ?_ _) | (with_reducible refine Up.setCell ?_ ?_ _) | (with_reducible refine Up.call ?_ (by with_reducible assumption)) | go_size))⟩
    · obtain rfl : r = false := by rw [← HR.out]; simp only [bareC, HMb2.out, HMb3.out, HMb4.out, HTT.out, Bool.and_assoc, HF.out, Bool.true_or, Bool.false_or, Bool.or_false, Bool.or_true, Bool.and_true, Bool.true_and, Bool.and_false, Bool.false_and, Bool.and_self, Bool.not_false, Bool.not_true] <;> (try rfl)
      go_enter Tryd.func18, Tryd.ntmps18
      go_wp2_with (go_at_call 36; ((with_reducible refine (rfits_pob n _ HF.out _).mono ?_); rintro e w2 ⟨rfl, rfl⟩))
      go_ret
      exact ⟨rfl, by (repeat' (first | (with_reducible exact Up.refl _) | (with_reducible assumption) | (with_reducible refine Up.alloc ?_ _) | (with_reducible refine Up.drew ?_) | (with_reducible refine Up.drewN ?_ _) | (with_reducible refine Up.setCell ?_ ?_ _) | (with_reducible refine Up.call ?_ (by with_reducible assumption)) | go_size))⟩

set_option maxRecDepth 8000 in
set_option maxHeartbeats 4000000 in
theorem rsound_k3 (n : Int) (t : List UInt8) (ka : Option Addr) (kl kc : Nat) (la : Option Addr) (ll lc : Nat) (da : Option Addr) (dl dc : Nat) (q : Int) (s : Bool) (r : Bool) (hr : (bareC n t kl ll dl true false false false false && (decide (-2147483648 ≤ n) && decide (n ≤ 2147483647))) = r) (w : World) (hl : t.length ≤ 70000) :
    Calls Tryd.prog 18 #[.agg #[.int .i64 3, .int .i64 n, .string ⟨t.toArray⟩, .slice ka kl kc, .slice la ll lc, .slice da dl dc], .int .i64 q, .bool s] w fun e w' => e = .returned (.bool r) ∧ Up w w' := by
  have HR := Lib.hid hr
  clear hr
  obtain ⟨b2, hb2⟩ : ∃ b, ((kl : Int) == 0) = b := ⟨_, rfl⟩
  have HMb2 : Hid (decide (kl = 0) = b2) := Lib.hid ((beqN kl).symm.trans hb2)
  obtain ⟨b3, hb3⟩ : ∃ b, ((ll : Int) == 0) = b := ⟨_, rfl⟩
  have HMb3 : Hid (decide (ll = 0) = b3) := Lib.hid ((beqN ll).symm.trans hb3)
  obtain ⟨b4, hb4⟩ : ∃ b, ((dl : Int) == 0) = b := ⟨_, rfl⟩
  have HMb4 : Hid (decide (dl = 0) = b4) := Lib.hid ((beqN dl).symm.trans hb4)
  by_cases ht : t = []
  · have HTT := Lib.hid (show decide (t = []) = true by simp [ht])
    subst ht
    obtain ⟨u, hu⟩ : ∃ u, (decide (-2147483648 ≤ n) && decide (n ≤ 2147483647)) = u := ⟨_, rfl⟩
    have HF := Lib.hid hu
    clear hu
    cases u
    · obtain rfl : r = false := by rw [← HR.out]; simp only [bareC, HMb2.out, HMb3.out, HMb4.out, HTT.out, HF.out, Bool.true_or, Bool.false_or, Bool.or_false, Bool.or_true, Bool.and_true, Bool.true_and, Bool.and_false, Bool.false_and, Bool.and_self, Bool.not_false, Bool.not_true] <;> (try rfl)
      go_enter Tryd.func18, Tryd.ntmps18
      go_wp2_with (go_at_call 36; ((with_reducible refine (rfits_pob n _ HF.out _).mono ?_); rintro e w2 ⟨rfl, rfl⟩))
      go_ret
      exact ⟨rfl, by (repeat' (first | (with_reducible exact Up.refl _) | (with_reducible assumption) | (with_reducible refine Up.alloc ?_ _) | (with_reducible refine Up.drew ?_) | (with_reducible refine Up.drewN ?_ _) | (with_reducible refine Up.setCell ?_ ?_ _) | (with_reducible refine Up.call ?_ (by with_reducible assumption)) | go_size))⟩
    · cases b2
      · obtain rfl : r = false := by rw [← HR.out]; simp only [bareC, HMb2.out, HMb3.out, HMb4.out, HTT.out, HF.out, Bool.true_or, Bool.false_or, Bool.or_false, Bool.or_true, Bool.and_true, Bool.true_and, Bool.and_false, Bool.false_and, Bool.and_self, Bool.not_false, Bool.not_true] <;> (try rfl)
        go_enter Tryd.func18, Tryd.ntmps18
        go_wp2_with (go_at_call 36; ((with_reducible refine (rfits_pob n _ HF.out _).mono ?_); rintro e w2 ⟨rfl, rfl⟩))
        go_ret
        exact ⟨rfl, by (repeat' (first | (with_reducible exact Up.refl _) | (with_reducible assumption) | (with_reducible refine Up.alloc ?_ _) | (with_reducible refine Up.drew ?_) | (with_reducible refine Up.drewN ?_ _) | (with_reducible refine Up.setCell ?_ ?_ _) | (with_reducible refine Up.call ?_ (by with_reducible assumption)) | go_size))⟩
      · cases b3
        · obtain rfl : r = false := by rw [← HR.out]; simp only [bareC, HMb2.out, HMb3.out, HMb4.out, HTT.out, HF.out, Bool.true_or, Bool.false_or, Bool.or_false, Bool.or_true, Bool.and_true, Bool.true_and, Bool.and_false, Bool.false_and, Bool.and_self, Bool.not_false, Bool.not_true] <;> (try rfl)
          go_enter Tryd.func18, Tryd.ntmps18
          go_wp2_with (go_at_call 36; ((with_reducible refine (rfits_pob n _ HF.out _).mono ?_); rintro e w2 ⟨rfl, rfl⟩))
          go_ret
          exact ⟨rfl, by (repeat' (first | (with_reducible exact Up.refl _) | (with_reducible assumption) | (with_reducible refine Up.alloc ?_ _) | (with_reducible refine Up.drew ?_) | (with_reducible refine Up.drewN ?_ _) | (with_reducible refine Up.setCell ?_ ?_ _) | (with_reducible refine Up.call ?_ (by with_reducible assumption)) | go_size))⟩
        · cases b4
          · obtain rfl : r = false := by rw [← HR.out]; simp only [bareC, HMb2.out, HMb3.out, HMb4.out, HTT.out, HF.out, Bool.true_or, Bool.false_or, Bool.or_false, Bool.or_true, Bool.and_true, Bool.true_and, Bool.and_false, Bool.false_and, Bool.and_self, Bool.not_false, Bool.not_true] <;> (try rfl)
            go_enter Tryd.func18, Tryd.ntmps18
            go_wp2_with (go_at_call 36; ((with_reducible refine (rfits_pob n _ HF.out _).mono ?_); rintro e w2 ⟨rfl, rfl⟩))
            go_ret
            exact ⟨rfl, by (repeat' (first | (with_reducible exact Up.refl _) | (with_reducible assumption) | (with_reducible refine Up.alloc ?_ _) | (with_reducible refine Up.drew ?_) | (with_reducible refine Up.drewN ?_ _) | (with_reducible refine Up.setCell ?_ ?_ _) | (with_reducible refine Up.call ?_ (by with_reducible assumption)) | go_size))⟩
          · obtain rfl : r = true := by rw [← HR.out]; simp only [bareC, HMb2.out, HMb3.out, HMb4.out, HTT.out, HF.out, Bool.true_or, Bool.false_or, Bool.or_false, Bool.or_true, Bool.and_true, Bool.true_and, Bool.and_false, Bool.false_and, Bool.and_self, Bool.not_false, Bool.not_true] <;> (try rfl)
            go_enter Tryd.func18, Tryd.ntmps18
            go_wp2_with (go_at_call 36; ((with_reducible refine (rfits_pob n _ HF.out _).mono ?_); rintro e w2 ⟨rfl, rfl⟩))
            go_ret
            exact ⟨rfl, by (repeat' (first | (with_reducible exact Up.refl _) | (with_reducible assumption) | (with_reducible refine Up.alloc ?_ _) | (with_reducible refine Up.drew ?_) | (with_reducible refine Up.drewN ?_ _) | (with_reducible refine Up.setCell ?_ ?_ _) | (with_reducible refine Up.call ?_ (by with_reducible assumption)) | go_size))⟩
  · have HTT := Lib.hid (show decide (t = []) = false by simp [ht])
    have ht2 : t.isEmpty = false := by simpa using ht
    obtain ⟨u, hu⟩ : ∃ u, (decide (-2147483648 ≤ n) && decide (n ≤ 2147483647)) = u := ⟨_, rfl⟩
    have HF := Lib.hid hu
    clear hu
    cases u
    · obtain rfl : r = false := by rw [← HR.out]; simp only [bareC, HMb2.out, HMb3.out, HMb4.out, HTT.out, HF.out, Bool.true_or, Bool.false_or, Bool.or_false, Bool.or_true, Bool.and_true, Bool.true_and, Bool.and_false, Bool.false_and, Bool.and_self, Bool.not_false, Bool.not_true] <;> (try rfl)
      go_enter Tryd.func18, Tryd.ntmps18
      go_wp2_with (go_at_call 36; ((with_reducible refine (rfits_pob n _ HF.out _).mono ?_); rintro e w2 ⟨rfl, rfl⟩))
      go_ret
      exact ⟨rfl, by (repeat' (first | (with_reducible exact Up.refl _) | (with_reducible assumption) | (with_reducible refine Up.alloc ?_ _) | (with_reducible refine Up.drew ?_) | (with_reducible refine Up.drewN ?_ _) | (with_reducible refine Up.setCell ?_ ?_ _) | (with_reducible refine Up.call ?_ (by with_reducible assumption)) | go_size))⟩
    · obtain rfl : r = false := by rw [← HR.out]; simp only [bareC, HMb2.out, HMb3.out, HMb4.out, HTT.out, HF.out, Bool.true_or, Bool.false_or, Bool.or_false, Bool.or_true, Bool.and_true, Bool.true_and, Bool.and_false, Bool.false_and, Bool.and_self, Bool.not_false, Bool.not_true] <;> (try rfl)
      go_enter Tryd.func18, Tryd.ntmps18
      go_wp2_with (go_at_call 36; ((with_reducible refine (rfits_pob n _ HF.out _).mono ?_); rintro e w2 ⟨rfl, rfl⟩))
      go_ret
      exact ⟨rfl, by (repeat' (first | (with_reducible exact Up.refl _) | (with_reducible assumption) | (with_reducible refine Up.alloc ?_ _) | (with_reducible refine Up.drew ?_) | (with_reducible refine Up.drewN ?_ _) | (with_reducible refine Up.setCell ?_ ?_ _) | (with_reducible refine Up.call ?_ (by with_reducible assumption)) | go_size))⟩

set_option maxRecDepth 8000 in
set_option maxHeartbeats 4000000 in
theorem rsound_k4 (n : Int) (t : List UInt8) (ka : Option Addr) (kl kc : Nat) (la : Option Addr) (ll lc : Nat) (da : Option Addr) (dl dc : Nat) (q : Int) (s : Bool) (r : Bool) (hr : (bareC n t kl ll dl false true false false false && namedB t) = r) (w : World) (hl : t.length ≤ 70000) :
    Calls Tryd.prog 18 #[.agg #[.int .i64 4, .int .i64 n, .string ⟨t.toArray⟩, .slice ka kl kc, .slice la ll lc, .slice da dl dc], .int .i64 q, .bool s] w fun e w' => e = .returned (.bool r) ∧ Up w w' := by
  have HR := Lib.hid hr
  clear hr
  obtain ⟨b0, hb0⟩ : ∃ b, ((n : Int) == 0) = b := ⟨_, rfl⟩
  have HMb0 : Hid (decide (n = 0) = b0) := Lib.hid ((beqZ n).symm.trans hb0)
  obtain ⟨b2, hb2⟩ : ∃ b, ((kl : Int) == 0) = b := ⟨_, rfl⟩
  have HMb2 : Hid (decide (kl = 0) = b2) := Lib.hid ((beqN kl).symm.trans hb2)
  obtain ⟨b3, hb3⟩ : ∃ b, ((ll : Int) == 0) = b := ⟨_, rfl⟩
  have HMb3 : Hid (decide (ll = 0) = b3) := Lib.hid ((beqN ll).symm.trans hb3)
  obtain ⟨b4, hb4⟩ : ∃ b, ((dl : Int) == 0) = b := ⟨_, rfl⟩
  have HMb4 : Hid (decide (dl = 0) = b4) := Lib.hid ((beqN dl).symm.trans hb4)
  cases b0
  · obtain rfl : r = false := by rw [← HR.out]; simp only [bareC, HMb0.out, HMb2.out, HMb3.out, HMb4.out, Bool.true_or, Bool.false_or, Bool.or_false, Bool.or_true, Bool.and_true, Bool.true_and, Bool.and_false, Bool.false_and, Bool.and_self, Bool.not_false, Bool.not_true] <;> (try rfl)
    go_enter Tryd.func18, Tryd.ntmps18
    go_wp2
    go_ret
    exact ⟨rfl, by (repeat' (first | (with_reducible exact Up.refl _) | (with_reducible assumption) | (with_reducible refine Up.alloc ?_ _) | (with_reducible refine Up.drew ?_) | (with_reducible refine Up.drewN ?_ _) | (with_reducible refine Up.setCell ?_ ?_ _) | (with_reducible refine Up.call ?_ (by with_reducible assumption)) | go_size))⟩
  · obtain ⟨u, hu⟩ : ∃ u, namedB t = u := ⟨_, rfl⟩
    have HF := Lib.hid hu
    clear hu
    cases u
    · obtain rfl : r = false := by rw [← HR.out]; simp only [bareC, HMb0.out, HMb2.out, HMb3.out, HMb4.out, HF.out, Bool.true_or, Bool.false_or, Bool.or_false, Bool.or_true, Bool.and_true, Bool.true_and, Bool.and_false, Bool.false_and, Bool.and_self, Bool.not_false, Bool.not_true] <;> (try rfl)
      go_enter Tryd.func18, Tryd.ntmps18
      go_wp2_with (go_at_call 37; ((with_reducible refine (rname_calls t _ HF.out (by omega) _).mono ?_); rintro e w2 ⟨rfl, rfl⟩))
      go_ret
      exact ⟨rfl, by (repeat' (first | (with_reducible exact Up.refl _) | (with_reducible assumption) | (with_reducible refine Up.alloc ?_ _) | (with_reducible refine Up.drew ?_) | (with_reducible refine Up.drewN ?_ _) | (with_reducible refine Up.setCell ?_ ?_ _) | (with_reducible refine Up.call ?_ (by with_reducible assumption)) | go_size))⟩
    · cases b2
      · obtain rfl : r = false := by rw [← HR.out]; simp only [bareC, HMb0.out, HMb2.out, HMb3.out, HMb4.out, HF.out, Bool.true_or, Bool.false_or, Bool.or_false, Bool.or_true, Bool.and_true, Bool.true_and, Bool.and_false, Bool.false_and, Bool.and_self, Bool.not_false, Bool.not_true] <;> (try rfl)
        go_enter Tryd.func18, Tryd.ntmps18
        go_wp2_with (go_at_call 37; ((with_reducible refine (rname_calls t _ HF.out (by omega) _).mono ?_); rintro e w2 ⟨rfl, rfl⟩))
        go_ret
        exact ⟨rfl, by (repeat' (first | (with_reducible exact Up.refl _) | (with_reducible assumption) | (with_reducible refine Up.alloc ?_ _) | (with_reducible refine Up.drew ?_) | (with_reducible refine Up.drewN ?_ _) | (with_reducible refine Up.setCell ?_ ?_ _) | (with_reducible refine Up.call ?_ (by with_reducible assumption)) | go_size))⟩
      · cases b3
        · obtain rfl : r = false := by rw [← HR.out]; simp only [bareC, HMb0.out, HMb2.out, HMb3.out, HMb4.out, HF.out, Bool.true_or, Bool.false_or, Bool.or_false, Bool.or_true, Bool.and_true, Bool.true_and, Bool.and_false, Bool.false_and, Bool.and_self, Bool.not_false, Bool.not_true] <;> (try rfl)
          go_enter Tryd.func18, Tryd.ntmps18
          go_wp2_with (go_at_call 37; ((with_reducible refine (rname_calls t _ HF.out (by omega) _).mono ?_); rintro e w2 ⟨rfl, rfl⟩))
          go_ret
          exact ⟨rfl, by (repeat' (first | (with_reducible exact Up.refl _) | (with_reducible assumption) | (with_reducible refine Up.alloc ?_ _) | (with_reducible refine Up.drew ?_) | (with_reducible refine Up.drewN ?_ _) | (with_reducible refine Up.setCell ?_ ?_ _) | (with_reducible refine Up.call ?_ (by with_reducible assumption)) | go_size))⟩
        · cases b4
          · obtain rfl : r = false := by rw [← HR.out]; simp only [bareC, HMb0.out, HMb2.out, HMb3.out, HMb4.out, HF.out, Bool.true_or, Bool.false_or, Bool.or_false, Bool.or_true, Bool.and_true, Bool.true_and, Bool.and_false, Bool.false_and, Bool.and_self, Bool.not_false, Bool.not_true] <;> (try rfl)
            go_enter Tryd.func18, Tryd.ntmps18
            go_wp2_with (go_at_call 37; ((with_reducible refine (rname_calls t _ HF.out (by omega) _).mono ?_); rintro e w2 ⟨rfl, rfl⟩))
            go_ret
            exact ⟨rfl, by (repeat' (first | (with_reducible exact Up.refl _) | (with_reducible assumption) | (with_reducible refine Up.alloc ?_ _) | (with_reducible refine Up.drew ?_) | (with_reducible refine Up.drewN ?_ _) | (with_reducible refine Up.setCell ?_ ?_ _) | (with_reducible refine Up.call ?_ (by with_reducible assumption)) | go_size))⟩
          · obtain rfl : r = true := by rw [← HR.out]; simp only [bareC, HMb0.out, HMb2.out, HMb3.out, HMb4.out, HF.out, Bool.true_or, Bool.false_or, Bool.or_false, Bool.or_true, Bool.and_true, Bool.true_and, Bool.and_false, Bool.false_and, Bool.and_self, Bool.not_false, Bool.not_true] <;> (try rfl)
            go_enter Tryd.func18, Tryd.ntmps18
            go_wp2_with (go_at_call 37; ((with_reducible refine (rname_calls t _ HF.out (by omega) _).mono ?_); rintro e w2 ⟨rfl, rfl⟩))
            go_ret
            exact ⟨rfl, by (repeat' (first | (with_reducible exact Up.refl _) | (with_reducible assumption) | (with_reducible refine Up.alloc ?_ _) | (with_reducible refine Up.drew ?_) | (with_reducible refine Up.drewN ?_ _) | (with_reducible refine Up.setCell ?_ ?_ _) | (with_reducible refine Up.call ?_ (by with_reducible assumption)) | go_size))⟩

set_option maxRecDepth 8000 in
set_option maxHeartbeats 4000000 in
theorem rsound_k5 (n : Int) (t : List UInt8) (ka : Option Addr) (kl kc : Nat) (la : Option Addr) (ll lc : Nat) (da : Option Addr) (dl dc : Nat) (q : Int) (s : Bool) (r : Bool) (hr : (bareC n t kl ll dl false true false false false && decide (t.length ≤ 65535)) = r) (w : World) (hl : t.length ≤ 70000) :
    Calls Tryd.prog 18 #[.agg #[.int .i64 5, .int .i64 n, .string ⟨t.toArray⟩, .slice ka kl kc, .slice la ll lc, .slice da dl dc], .int .i64 q, .bool s] w fun e w' => e = .returned (.bool r) ∧ Up w w' := by
  have HR := Lib.hid hr
  clear hr
  obtain ⟨b0, hb0⟩ : ∃ b, ((n : Int) == 0) = b := ⟨_, rfl⟩
  have HMb0 : Hid (decide (n = 0) = b0) := Lib.hid ((beqZ n).symm.trans hb0)
  obtain ⟨b2, hb2⟩ : ∃ b, ((kl : Int) == 0) = b := ⟨_, rfl⟩
  have HMb2 : Hid (decide (kl = 0) = b2) := Lib.hid ((beqN kl).symm.trans hb2)
  obtain ⟨b3, hb3⟩ : ∃ b, ((ll : Int) == 0) = b := ⟨_, rfl⟩
  have HMb3 : Hid (decide (ll = 0) = b3) := Lib.hid ((beqN ll).symm.trans hb3)
  obtain ⟨b4, hb4⟩ : ∃ b, ((dl : Int) == 0) = b := ⟨_, rfl⟩
  have HMb4 : Hid (decide (dl = 0) = b4) := Lib.hid ((beqN dl).symm.trans hb4)
  cases b0
  · obtain rfl : r = false := by rw [← HR.out]; simp only [bareC, HMb0.out, HMb2.out, HMb3.out, HMb4.out, Bool.true_or, Bool.false_or, Bool.or_false, Bool.or_true, Bool.and_true, Bool.true_and, Bool.and_false, Bool.false_and, Bool.and_self, Bool.not_false, Bool.not_true] <;> (try rfl)
    go_enter Tryd.func18, Tryd.ntmps18
    go_wp2
    go_ret
    exact ⟨rfl, by (repeat' (first | (with_reducible exact Up.refl _) | (with_reducible assumption) | (with_reducible refine Up.alloc ?_ _) | (with_reducible refine Up.drew ?_) | (with_reducible refine Up.drewN ?_ _) | (with_reducible refine Up.setCell ?_ ?_ _) | (with_reducible refine Up.call ?_ (by with_reducible assumption)) | go_size))⟩
  · by_cases t1 : t.length ≤ 65535
    rotate_left
    · have HT1 := Lib.hid (show decide (t.length ≤ 65535) = false from decide_eq_false t1)
      obtain rfl : r = false := by rw [← HR.out]; simp only [bareC, HMb0.out, HMb2.out, HMb3.out, HMb4.out, HT1.out, Bool.true_or, Bool.false_or, Bool.or_false, Bool.or_true, Bool.and_true, Bool.true_and, Bool.and_false, Bool.false_and, Bool.and_self, Bool.not_false, Bool.not_true] <;> (try rfl)
      have d1 : decide ((t.length : Int) ≤ 65535) = false := decide_eq_false (by omega)
      clear t1
      go_enter Tryd.func18, Tryd.ntmps18
      go_wp2
      go_ret
      exact ⟨rfl, by (repeat' (first | (with_reducible exact Up.refl _) | (with_reducible assumption) | (with_reducible refine Up.alloc ?_ _) | (with_reducible refine Up.drew ?_) | (with_reducible refine Up.drewN ?_ _) | (with_reducible refine Up.setCell ?_ ?_ _) | (with_reducible refine Up.call ?_ (by with_reducible assumption)) | go_size))⟩
    have HT1 := Lib.hid (show decide (t.length ≤ 65535) = true from decide_eq_true t1)
    have d1 : decide ((t.length : Int) ≤ 65535) = true := decide_eq_true (by omega)
    clear t1
    cases b2
    · obtain rfl : r = false := by rw [← HR.out]; simp only [bareC, HMb0.out, HMb2.out, HMb3.out, HMb4.out, HT1.out, Bool.true_or, Bool.false_or, Bool.or_false, Bool.or_true, Bool.and_true, Bool.true_and, Bool.and_false, Bool.false_and, Bool.and_self, Bool.not_false, Bool.not_true] <;> (try rfl)
      go_enter Tryd.func18, Tryd.ntmps18
      go_wp2
      go_ret
      exact ⟨rfl, by (repeat' (first | (with_reducible exact Up.refl _) | (with_reducible assumption) | (with_reducible refine Up.alloc ?_ _) | (with_reducible refine Up.drew ?_) | (with_reducible refine Up.drewN ?_ _) | (with_reducible refine Up.setCell ?_ ?_ _) | (with_reducible refine Up.call ?_ (by with_reducible assumption)) | go_size))⟩
    · cases b3
      · obtain rfl : r = false := by rw [← HR.out]; simp only [bareC, HMb0.out, HMb2.out, HMb3.out, HMb4.out, HT1.out, Bool.true_or, Bool.false_or, Bool.or_false, Bool.or_true, Bool.and_true, Bool.true_and, Bool.and_false, Bool.false_and, Bool.and_self, Bool.not_false, Bool.not_true] <;> (try rfl)
        go_enter Tryd.func18, Tryd.ntmps18
        go_wp2
        go_ret
        exact ⟨rfl, by (repeat' (first | (with_reducible exact Up.refl _) | (with_reducible assumption) | (with_reducible refine Up.alloc ?_ _) | (with_reducible refine Up.drew ?_) | (with_reducible refine Up.drewN ?_ _) | (with_reducible refine Up.setCell ?_ ?_ _) | (with_reducible refine Up.call ?_ (by with_reducible assumption)) | go_size))⟩
      · cases b4
        · obtain rfl : r = false := by rw [← HR.out]; simp only [bareC, HMb0.out, HMb2.out, HMb3.out, HMb4.out, HT1.out, Bool.true_or, Bool.false_or, Bool.or_false, Bool.or_true, Bool.and_true, Bool.true_and, Bool.and_false, Bool.false_and, Bool.and_self, Bool.not_false, Bool.not_true] <;> (try rfl)
          go_enter Tryd.func18, Tryd.ntmps18
          go_wp2
          go_ret
          exact ⟨rfl, by (repeat' (first | (with_reducible exact Up.refl _) | (with_reducible assumption) | (with_reducible refine Up.alloc ?_ _) | (with_reducible refine Up.drew ?_) | (with_reducible refine Up.drewN ?_ _) | (with_reducible refine Up.setCell ?_ ?_ _) | (with_reducible refine Up.call ?_ (by with_reducible assumption)) | go_size))⟩
        · obtain rfl : r = true := by rw [← HR.out]; simp only [bareC, HMb0.out, HMb2.out, HMb3.out, HMb4.out, HT1.out, Bool.true_or, Bool.false_or, Bool.or_false, Bool.or_true, Bool.and_true, Bool.true_and, Bool.and_false, Bool.false_and, Bool.and_self, Bool.not_false, Bool.not_true] <;> (try rfl)
          go_enter Tryd.func18, Tryd.ntmps18
          go_wp2
          go_ret
          exact ⟨rfl, by (repeat' (first | (with_reducible exact Up.refl _) | (with_reducible assumption) | (with_reducible refine Up.alloc ?_ _) | (with_reducible refine Up.drew ?_) | (with_reducible refine Up.drewN ?_ _) | (with_reducible refine Up.setCell ?_ ?_ _) | (with_reducible refine Up.call ?_ (by with_reducible assumption)) | go_size))⟩

set_option maxRecDepth 8000 in
set_option maxHeartbeats 4000000 in
theorem rsound_k8 (n : Int) (t : List UInt8) (ka : Option Addr) (kl kc : Nat) (la : Option Addr) (ll lc : Nat) (da : Option Addr) (dl dc : Nat) (q : Int) (s : Bool) (r : Bool) (hr : (bareC n t kl ll dl true false false false false && decide (1 ≤ n) && decide (n ≤ 4096)) = r) (w : World) (hl : t.length ≤ 70000) :
    Calls Tryd.prog 18 #[.agg #[.int .i64 8, .int .i64 n, .string ⟨t.toArray⟩, .slice ka kl kc, .slice la ll lc, .slice da dl dc], .int .i64 q, .bool s] w fun e w' => e = .returned (.bool r) ∧ Up w w' := by
  have HR := Lib.hid hr
  clear hr
  obtain ⟨b2, hb2⟩ : ∃ b, ((kl : Int) == 0) = b := ⟨_, rfl⟩
  have HMb2 : Hid (decide (kl = 0) = b2) := Lib.hid ((beqN kl).symm.trans hb2)
  obtain ⟨b3, hb3⟩ : ∃ b, ((ll : Int) == 0) = b := ⟨_, rfl⟩
  have HMb3 : Hid (decide (ll = 0) = b3) := Lib.hid ((beqN ll).symm.trans hb3)
  obtain ⟨b4, hb4⟩ : ∃ b, ((dl : Int) == 0) = b := ⟨_, rfl⟩
  have HMb4 : Hid (decide (dl = 0) = b4) := Lib.hid ((beqN dl).symm.trans hb4)
  by_cases ht : t = []
  · have HTT := Lib.hid (show decide (t = []) = true by simp [ht])
    subst ht
    by_cases t0 : 1 ≤ n
    rotate_left
    · have HT0 := Lib.hid (show decide (1 ≤ n) = false from decide_eq_false t0)
      obtain rfl : r = false := by rw [← HR.out]; simp only [bareC, HMb2.out, HMb3.out, HMb4.out, HTT.out, HT0.out, Bool.true_or, Bool.false_or, Bool.or_false, Bool.or_true, Bool.and_true, Bool.true_and, Bool.and_false, Bool.false_and, Bool.and_self, Bool.not_false, Bool.not_true] <;> (try rfl)
      have d0 : decide (1 ≤ n) = false := decide_eq_false (by omega)
      clear t0
      go_enter Tryd.func18, Tryd.ntmps18
      go_wp2
      go_ret
      exact ⟨rfl, by (repeat' (first | (with_reducible exact Up.refl _) | (with_reducible assumption) | (with_reducible refine Up.alloc ?_ _) | (with_reducible refine Up.drew ?_) | (with_reducible refine Up.drewN ?_ _) | (with_reducible refine Up.setCell ?_ ?_ _) | (with_reducible refine Up.call ?_ (by with_reducible assumption)) | go_size))⟩
    have HT0 := Lib.hid (show decide (1 ≤ n) = true from decide_eq_true t0)
    have d0 : decide (1 ≤ n) = true := decide_eq_true (by omega)
    clear t0
    by_cases t1 : n ≤ 4096
    rotate_left
    · have HT1 := Lib.hid (show decide (n ≤ 4096) = false from decide_eq_false t1)
      obtain rfl : r = false := by rw [← HR.out]; simp only [bareC, HMb2.out, HMb3.out, HMb4.out, HTT.out, HT0.out, HT1.out, Bool.true_or, Bool.false_or, Bool.or_false, Bool.or_true, Bool.and_true, Bool.true_and, Bool.and_false, Bool.false_and, Bool.and_self, Bool.not_false, Bool.not_true] <;> (try rfl)
      have d1 : decide (n ≤ 4096) = false := decide_eq_false (by omega)
      clear t1
      go_enter Tryd.func18, Tryd.ntmps18
      go_wp2
      go_ret
      exact ⟨rfl, by (repeat' (first | (with_reducible exact Up.refl _) | (with_reducible assumption) | (with_reducible refine Up.alloc ?_ _) | (with_reducible refine Up.drew ?_) | (with_reducible refine Up.drewN ?_ _) | (with_reducible refine Up.setCell ?_ ?_ _) | (with_reducible refine Up.call ?_ (by with_reducible assumption)) | go_size))⟩
    have HT1 := Lib.hid (show decide (n ≤ 4096) = true from decide_eq_true t1)
    have d1 : decide (n ≤ 4096) = true := decide_eq_true (by omega)
    clear t1
    cases b2
    · obtain rfl : r = false := by rw [← HR.out]; simp only [bareC, HMb2.out, HMb3.out, HMb4.out, HTT.out, HT0.out, HT1.out, Bool.true_or, Bool.false_or, Bool.or_false, Bool.or_true, Bool.and_true, Bool.true_and, Bool.and_false, Bool.false_and, Bool.and_self, Bool.not_false, Bool.not_true] <;> (try rfl)
      go_enter Tryd.func18, Tryd.ntmps18
      go_wp2
      go_ret
      exact ⟨rfl, by (repeat' (first | (with_reducible exact Up.refl _) | (with_reducible assumption) | (with_reducible refine Up.alloc ?_ _) | (with_reducible refine Up.drew ?_) | (with_reducible refine Up.drewN ?_ _) | (with_reducible refine Up.setCell ?_ ?_ _) | (with_reducible refine Up.call ?_ (by with_reducible assumption)) | go_size))⟩
    · cases b3
      · obtain rfl : r = false := by rw [← HR.out]; simp only [bareC, HMb2.out, HMb3.out, HMb4.out, HTT.out, HT0.out, HT1.out, Bool.true_or, Bool.false_or, Bool.or_false, Bool.or_true, Bool.and_true, Bool.true_and, Bool.and_false, Bool.false_and, Bool.and_self, Bool.not_false, Bool.not_true] <;> (try rfl)
        go_enter Tryd.func18, Tryd.ntmps18
        go_wp2
        go_ret
        exact ⟨rfl, by (repeat' (first | (with_reducible exact Up.refl _) | (with_reducible assumption) | (with_reducible refine Up.alloc ?_ _) | (with_reducible refine Up.drew ?_) | (with_reducible refine Up.drewN ?_ _) | (with_reducible refine Up.setCell ?_ ?_ _) | (with_reducible refine Up.call ?_ (by with_reducible assumption)) | go_size))⟩
      · cases b4
        · obtain rfl : r = false := by rw [← HR.out]; simp only [bareC, HMb2.out, HMb3.out, HMb4.out, HTT.out, HT0.out, HT1.out, Bool.true_or, Bool.false_or, Bool.or_false, Bool.or_true, Bool.and_true, Bool.true_and, Bool.and_false, Bool.false_and, Bool.and_self, Bool.not_false, Bool.not_true] <;> (try rfl)
          go_enter Tryd.func18, Tryd.ntmps18
          go_wp2
          go_ret
          exact ⟨rfl, by (repeat' (first | (with_reducible exact Up.refl _) | (with_reducible assumption) | (with_reducible refine Up.alloc ?_ _) | (with_reducible refine Up.drew ?_) | (with_reducible refine Up.drewN ?_ _) | (with_reducible refine Up.setCell ?_ ?_ _) | (with_reducible refine Up.call ?_ (by with_reducible assumption)) | go_size))⟩
        · obtain rfl : r = true := by rw [← HR.out]; simp only [bareC, HMb2.out, HMb3.out, HMb4.out, HTT.out, HT0.out, HT1.out, Bool.true_or, Bool.false_or, Bool.or_false, Bool.or_true, Bool.and_true, Bool.true_and, Bool.and_false, Bool.false_and, Bool.and_self, Bool.not_false, Bool.not_true] <;> (try rfl)
          go_enter Tryd.func18, Tryd.ntmps18
          go_wp2
          go_ret
          exact ⟨rfl, by (repeat' (first | (with_reducible exact Up.refl _) | (with_reducible assumption) | (with_reducible refine Up.alloc ?_ _) | (with_reducible refine Up.drew ?_) | (with_reducible refine Up.drewN ?_ _) | (with_reducible refine Up.setCell ?_ ?_ _) | (with_reducible refine Up.call ?_ (by with_reducible assumption)) | go_size))⟩
  · have HTT := Lib.hid (show decide (t = []) = false by simp [ht])
    have ht2 : t.isEmpty = false := by simpa using ht
    by_cases t0 : 1 ≤ n
    rotate_left
    · have HT0 := Lib.hid (show decide (1 ≤ n) = false from decide_eq_false t0)
      obtain rfl : r = false := by rw [← HR.out]; simp only [bareC, HMb2.out, HMb3.out, HMb4.out, HTT.out, HT0.out, Bool.true_or, Bool.false_or, Bool.or_false, Bool.or_true, Bool.and_true, Bool.true_and, Bool.and_false, Bool.false_and, Bool.and_self, Bool.not_false, Bool.not_true] <;> (try rfl)
      have d0 : decide (1 ≤ n) = false := decide_eq_false (by omega)
      clear t0
      go_enter Tryd.func18, Tryd.ntmps18
      go_wp2
      go_ret
      exact ⟨rfl, by (repeat' (first | (with_reducible exact Up.refl _) | (with_reducible assumption) | (with_reducible refine Up.alloc ?_ _) | (with_reducible refine Up.drew ?_) | (with_reducible refine Up.drewN ?_ _) | (with_reducible refine Up.setCell ?_ ?_ _) | (with_reducible refine Up.call ?_ (by with_reducible assumption)) | go_size))⟩
    have HT0 := Lib.hid (show decide (1 ≤ n) = true from decide_eq_true t0)
    have d0 : decide (1 ≤ n) = true := decide_eq_true (by omega)
    clear t0
    by_cases t1 : n ≤ 4096
    rotate_left
    · have HT1 := Lib.hid (show decide (n ≤ 4096) = false from decide_eq_false t1)
      obtain rfl : r = false := by rw [← HR.out]; simp only [bareC, HMb2.out, HMb3.out, HMb4.out, HTT.out, HT0.out, HT1.out, Bool.true_or, Bool.false_or, Bool.or_false, Bool.or_true, Bool.and_true, Bool.true_and, Bool.and_false, Bool.false_and, Bool.and_self, Bool.not_false, Bool.not_true] <;> (try rfl)
      have d1 : decide (n ≤ 4096) = false := decide_eq_false (by omega)
      clear t1
      go_enter Tryd.func18, Tryd.ntmps18
      go_wp2
      go_ret
      exact ⟨rfl, by (repeat' (first | (with_reducible exact Up.refl _) | (with_reducible assumption) | (with_reducible refine Up.alloc ?_ _) | (with_reducible refine Up.drew ?_) | (with_reducible refine Up.drewN ?_ _) | (with_reducible refine Up.setCell ?_ ?_ _) | (with_reducible refine Up.call ?_ (by with_reducible assumption)) | go_size))⟩
    have HT1 := Lib.hid (show decide (n ≤ 4096) = true from decide_eq_true t1)
    have d1 : decide (n ≤ 4096) = true := decide_eq_true (by omega)
    clear t1
    obtain rfl : r = false := by rw [← HR.out]; simp only [bareC, HMb2.out, HMb3.out, HMb4.out, HTT.out, HT0.out, HT1.out, Bool.true_or, Bool.false_or, Bool.or_false, Bool.or_true, Bool.and_true, Bool.true_and, Bool.and_false, Bool.false_and, Bool.and_self, Bool.not_false, Bool.not_true] <;> (try rfl)
    go_enter Tryd.func18, Tryd.ntmps18
    go_wp2
    go_ret
    exact ⟨rfl, by (repeat' (first | (with_reducible exact Up.refl _) | (with_reducible assumption) | (with_reducible refine Up.alloc ?_ _) | (with_reducible refine Up.drew ?_) | (with_reducible refine Up.drewN ?_ _) | (with_reducible refine Up.setCell ?_ ?_ _) | (with_reducible refine Up.call ?_ (by with_reducible assumption)) | go_size))⟩
set_option maxRecDepth 8000 in
set_option maxHeartbeats 2000000 in
theorem rsound_other (k n : Int) (t : List UInt8) (ka : Option Addr) (kl kc : Nat) (la : Option Addr) (ll lc : Nat) (da : Option Addr) (dl dc : Nat) (q : Int) (s : Bool) (h : k < 0 ∨ 9 < k) (w : World) : Calls Tryd.prog 18 #[.agg #[.int .i64 k, .int .i64 n, .string ⟨t.toArray⟩, .slice ka kl kc, .slice la ll lc, .slice da dl dc], .int .i64 q, .bool s] w fun e w' => e = .returned (.bool false) ∧ Up w w' := by
  by_cases ht : t = []
  · subst ht
    rcases h with h | h
    · go_enter Tryd.func18, Tryd.ntmps18
      go_wp2
      go_ret
      exact ⟨rfl, by (repeat' (first | (with_reducible exact Up.refl _) | (with_reducible assumption) | (with_reducible refine Up.alloc ?_ _) | (with_reducible refine Up.drew ?_) | (with_reducible refine Up.drewN ?_ _) | (with_reducible refine Up.setCell ?_ ?_ _) | (with_reducible refine Up.call ?_ (by with_reducible assumption)) | go_size))⟩
    · go_enter Tryd.func18, Tryd.ntmps18
      go_wp2
      go_ret
      exact ⟨rfl, by (repeat' (first | (with_reducible exact Up.refl _) | (with_reducible assumption) | (with_reducible refine Up.alloc ?_ _) | (with_reducible refine Up.drew ?_) | (with_reducible refine Up.drewN ?_ _) | (with_reducible refine Up.setCell ?_ ?_ _) | (with_reducible refine Up.call ?_ (by with_reducible assumption)) | go_size))⟩
  · have ht2 : t.isEmpty = false := by simpa using ht
    rcases h with h | h
    · go_enter Tryd.func18, Tryd.ntmps18
      go_wp2
      go_ret
      exact ⟨rfl, by (repeat' (first | (with_reducible exact Up.refl _) | (with_reducible assumption) | (with_reducible refine Up.alloc ?_ _) | (with_reducible refine Up.drew ?_) | (with_reducible refine Up.drewN ?_ _) | (with_reducible refine Up.setCell ?_ ?_ _) | (with_reducible refine Up.call ?_ (by with_reducible assumption)) | go_size))⟩
    · go_enter Tryd.func18, Tryd.ntmps18
      go_wp2
      go_ret
      exact ⟨rfl, by (repeat' (first | (with_reducible exact Up.refl _) | (with_reducible assumption) | (with_reducible refine Up.alloc ?_ _) | (with_reducible refine Up.drew ?_) | (with_reducible refine Up.drewN ?_ _) | (with_reducible refine Up.setCell ?_ ?_ _) | (with_reducible refine Up.call ?_ (by with_reducible assumption)) | go_size))⟩

end Go.Proofs.YtaafelkdhahaoaaDoor.Pob
