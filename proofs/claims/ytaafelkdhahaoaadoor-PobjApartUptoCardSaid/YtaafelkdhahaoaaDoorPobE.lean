/- The reference's Texts, Same and Equal. Its condition: an object that is not too deep. -/
import Derived.Test.YtaafelkdhahaoaaDoorPobV
namespace Go.Proofs.YtaafelkdhahaoaaDoor.Pob
open Go.ChangeShapes Go.WideShapes Go.RowKit Go.Shelf
set_option linter.unusedVariables false
set_option linter.unusedSimpArgs false

theorem take_step {α : Type} {a b : List α} {i : Nat} {x : α} (ha : a[i]? = some x) (hb : b[i]? = some x) (h : a.take i = b.take i) : a.take (i + 1) = b.take (i + 1) := by
  rw [List.take_add_one, List.take_add_one, ha, hb, h]
theorem take_miss {α : Type} {a b : List α} {i : Nat} {x y : α} (ha : a[i]? = some x) (hb : b[i]? = some y) (h : x ≠ y) : a ≠ b := by
  rintro rfl
  rw [ha] at hb
  exact h (Option.some.inj hb)

set_option maxRecDepth 8000 in
set_option maxHeartbeats 2000000 in
theorem texts_calls (w0 : World) (aa : Option Addr) (al ac : Nat) (a : List (List UInt8)) (ba : Option Addr) (bl bc : Nat) (b : List (List UInt8)) (ha : Sl 1 kcells w0 aa al ac a) (hb : Sl 1 kcells w0 ba bl bc b) (r : Bool) (hr : decide (a = b) = r) (w : World) (hu : Up w0 w) :
    Calls Tryd.prog 24 #[.slice aa al ac, .slice ba bl bc] w fun e w' => e = .returned (.bool r) ∧ Up w w' := by
  have HA := Lib.hid ha
  have HB := Lib.hid hb
  have HAN := Lib.hid ha.2.2.1
  have HBN := Lib.hid hb.2.2.1
  have HU := Lib.hid hu
  have HR := Lib.hid hr
  have a1 := ha.1
  have a2 := ha.2.1
  have b1 := hb.1
  have b2 := hb.2.1
  clear ha hb hu hr
  by_cases he : al = bl
  rotate_left
  · obtain rfl : r = false := by rw [← HR.out]; exact decide_eq_false (fun e => he (by rw [← HAN.out, ← HBN.out, e]))
    have de : ((al : Int) != (bl : Int)) = true := by simp; omega
    clear he
    go_enter Tryd.func24, Tryd.ntmps24
    go_wp2
    go_ret
    exact ⟨rfl, by (repeat' (first | (with_reducible exact Up.refl _) | (with_reducible assumption) | (with_reducible refine Up.alloc ?_ _) | (with_reducible refine Up.drew ?_) | (with_reducible refine Up.drewN ?_ _) | (with_reducible refine Up.setCell ?_ ?_ _) | (with_reducible refine Up.call ?_ (by with_reducible assumption)) | go_size))⟩
  have de : ((al : Int) != (bl : Int)) = false := by simp [he]
  subst he
  go_enter Tryd.func24, Tryd.ntmps24
  go_wp2
  go_loopw [5] (fun s5 wr => ∃ i : Nat, i ≤ al ∧ s5 = .int .i64 i ∧ Hid (a.take i = b.take i) ∧ Hid (Up w wr)) (fun s5 _ => al - (intOf s5).toNat)
  case atStart => exact ⟨0, Nat.zero_le _, rfl, Lib.hid rfl, Lib.hid (Up.refl _)⟩
  case round =>
    obtain ⟨i, hi, rfl, HT, HUP⟩ := hrel
    have HU0 := Lib.hid (HU.out.call HUP.out)
    by_cases hlt : i < al
    · have dlt : decide (i < al) = true := decide_eq_true hlt
      obtain ⟨ga, oa, rfl, hga, hca⟩ := sl_some HA.out (by omega)
      obtain ⟨gb, ob, rfl, hgb, hcb⟩ := sl_some HB.out (by omega)
      obtain ⟨x, hx⟩ : ∃ x, a[i]? = some x := ⟨_, List.getElem?_eq_getElem (by have := HAN.out; omega)⟩
      obtain ⟨y, hy⟩ : ∃ y, b[i]? = some y := ⟨_, List.getElem?_eq_getElem (by have := HBN.out; omega)⟩
      have q0 : wr.cell? ⟨ga, oa + i, none⟩ = some (.string ⟨x.toArray⟩) := (HU0.out.cells.1 ga _ hga).trans (by have := hca i x 0 _ hx rfl; simpa using this)
      have q1 : wr.cell? ⟨gb, ob + i, none⟩ = some (.string ⟨y.toArray⟩) := (HU0.out.cells.1 gb _ hgb).trans (by have := hcb i y 0 _ hy rfl; simpa using this)
      have lga : ga < wr.heap.size := Nat.lt_of_lt_of_le hga HU0.out.size
      have lgb : gb < wr.heap.size := Nat.lt_of_lt_of_le hgb HU0.out.size
      have HX := Lib.hid hx
      have HY := Lib.hid hy
      clear hx hy hca hcb hga hgb
      by_cases hxy : x = y
      · subst hxy
        go_wp2
        go_region
        go_wp2
        go_roundw
        case rel => exact ⟨i + 1, by omega, by go_num, Lib.hid (take_step HX.out HY.out HT.out), Lib.hid (by first | exact HUP.out | exact Up.drew HUP.out)⟩
        case measure => simp [intOf]; omega
      · obtain rfl : r = false := by rw [← HR.out]; exact decide_eq_false (take_miss HX.out HY.out hxy)
        have hn1 : (x == y) = false := beq_eq_false_iff_ne.2 hxy
        clear hxy
        go_wp2
        go_region
        go_wp2
        go_ret
        exact ⟨rfl, by first | exact HUP.out | exact Up.drew HUP.out⟩
    · have dlt : decide (i < al) = false := decide_eq_false hlt
      obtain rfl : al = i := by omega
      obtain rfl : r = true := by
        rw [← HR.out]
        have := HT.out
        rw [List.take_of_length_le (by have := HAN.out; omega), List.take_of_length_le (by have := HBN.out; omega)] at this
        exact decide_eq_true this
      go_wp2
      go_ret
      exact ⟨rfl, HUP.out⟩

set_option maxRecDepth 8000 in
set_option maxHeartbeats 2000000 in
theorem same_calls (w0 : World) (aa : Option Addr) (al ac : Nat) (a : List UInt8) (ba : Option Addr) (bl bc : Nat) (b : List UInt8) (ha : Sl 1 dcells w0 aa al ac a) (hb : Sl 1 dcells w0 ba bl bc b) (r : Bool) (hr : decide (a = b) = r) (w : World) (hu : Up w0 w) :
    Calls Tryd.prog 12 #[.slice aa al ac, .slice ba bl bc] w fun e w' => e = .returned (.bool r) ∧ Up w w' := by
  have HA := Lib.hid ha
  have HB := Lib.hid hb
  have HAN := Lib.hid ha.2.2.1
  have HBN := Lib.hid hb.2.2.1
  have HU := Lib.hid hu
  have HR := Lib.hid hr
  have a1 := ha.1
  have a2 := ha.2.1
  have b1 := hb.1
  have b2 := hb.2.1
  clear ha hb hu hr
  by_cases he : al = bl
  rotate_left
  · obtain rfl : r = false := by rw [← HR.out]; exact decide_eq_false (fun e => he (by rw [← HAN.out, ← HBN.out, e]))
    have de : ((al : Int) != (bl : Int)) = true := by simp; omega
    clear he
    go_enter Tryd.func12, Tryd.ntmps12
    go_wp2
    go_ret
    exact ⟨rfl, by (repeat' (first | (with_reducible exact Up.refl _) | (with_reducible assumption) | (with_reducible refine Up.alloc ?_ _) | (with_reducible refine Up.drew ?_) | (with_reducible refine Up.drewN ?_ _) | (with_reducible refine Up.setCell ?_ ?_ _) | (with_reducible refine Up.call ?_ (by with_reducible assumption)) | go_size))⟩
  have de : ((al : Int) != (bl : Int)) = false := by simp [he]
  subst he
  go_enter Tryd.func12, Tryd.ntmps12
  go_wp2
  go_loopw [5] (fun s5 wr => ∃ i : Nat, i ≤ al ∧ s5 = .int .i64 i ∧ Hid (a.take i = b.take i) ∧ Hid (Up w wr)) (fun s5 _ => al - (intOf s5).toNat)
  case atStart => exact ⟨0, Nat.zero_le _, rfl, Lib.hid rfl, Lib.hid (Up.refl _)⟩
  case round =>
    obtain ⟨i, hi, rfl, HT, HUP⟩ := hrel
    have HU0 := Lib.hid (HU.out.call HUP.out)
    by_cases hlt : i < al
    · have dlt : decide (i < al) = true := decide_eq_true hlt
      obtain ⟨ga, oa, rfl, hga, hca⟩ := sl_some HA.out (by omega)
      obtain ⟨gb, ob, rfl, hgb, hcb⟩ := sl_some HB.out (by omega)
      obtain ⟨x, hx⟩ : ∃ x, a[i]? = some x := ⟨_, List.getElem?_eq_getElem (by have := HAN.out; omega)⟩
      obtain ⟨y, hy⟩ : ∃ y, b[i]? = some y := ⟨_, List.getElem?_eq_getElem (by have := HBN.out; omega)⟩
      have q0 : wr.cell? ⟨ga, oa + i, none⟩ = some (.int .u8 (x.toNat : Int)) := (HU0.out.cells.1 ga _ hga).trans (by have := hca i x 0 _ hx rfl; simpa using this)
      have q1 : wr.cell? ⟨gb, ob + i, none⟩ = some (.int .u8 (y.toNat : Int)) := (HU0.out.cells.1 gb _ hgb).trans (by have := hcb i y 0 _ hy rfl; simpa using this)
      have lga : ga < wr.heap.size := Nat.lt_of_lt_of_le hga HU0.out.size
      have lgb : gb < wr.heap.size := Nat.lt_of_lt_of_le hgb HU0.out.size
      have HX := Lib.hid hx
      have HY := Lib.hid hy
      clear hx hy hca hcb hga hgb
      by_cases hxy : x = y
      · subst hxy
        go_wp2
        go_region
        go_wp2
        go_roundw
        case rel => exact ⟨i + 1, by omega, by go_num, Lib.hid (take_step HX.out HY.out HT.out), Lib.hid (by first | exact HUP.out | exact Up.drew HUP.out)⟩
        case measure => simp [intOf]; omega
      · obtain rfl : r = false := by rw [← HR.out]; exact decide_eq_false (take_miss HX.out HY.out hxy)
        have hn1 : ((x.toNat : Int) != (y.toNat : Int)) = true := by
          rw [bne_iff_ne]
          intro e
          exact hxy (UInt8.toNat_inj.1 (by omega))
        clear hxy
        go_wp2
        go_region
        go_wp2
        go_ret
        exact ⟨rfl, by first | exact HUP.out | exact Up.drew HUP.out⟩
    · have dlt : decide (i < al) = false := decide_eq_false hlt
      obtain rfl : al = i := by omega
      obtain rfl : r = true := by
        rw [← HR.out]
        have := HT.out
        rw [List.take_of_length_le (by have := HAN.out; omega), List.take_of_length_le (by have := HBN.out; omega)] at this
        exact decide_eq_true this
      go_wp2
      go_ret
      exact ⟨rfl, HUP.out⟩

set_option maxRecDepth 8000 in
set_option maxHeartbeats 8000000 in
theorem equal_step (j : Nat) (w0 : World) (ih : ∀ (a b : PO) (W : World), POk w0 a → POk w0 b → lightR j a = true → Up w0 W → Calls Tryd.prog 13 #[.agg a.cells.toArray, .agg b.cells.toArray] W fun e w' => e = .returned (.bool (eqR j a b)) ∧ Up W w')
    (k n : Int) (t : List UInt8) (ka : Option Addr) (kl kc : Nat) (ks : List (List UInt8)) (la : Option Addr) (ll lc : Nat) (l : List PO) (da : Option Addr) (dl dc : Nat) (d : List UInt8)
    (k' n' : Int) (t' : List UInt8) (ka' : Option Addr) (kl' kc' : Nat) (ks' : List (List UInt8)) (la' : Option Addr) (ll' lc' : Nat) (l' : List PO) (da' : Option Addr) (dl' dc' : Nat) (d' : List UInt8)
    (hk : Sl 1 kcells w0 ka kl kc ks) (hl : Sl 6 PO.cells w0 la ll lc l) (hd : Sl 1 dcells w0 da dl dc d) (hc : ∀ c ∈ l, POk w0 c) (hj : ∀ c ∈ l, lightR j c = true)
    (hk' : Sl 1 kcells w0 ka' kl' kc' ks') (hl' : Sl 6 PO.cells w0 la' ll' lc' l') (hd' : Sl 1 dcells w0 da' dl' dc' d') (hc' : ∀ c ∈ l', POk w0 c)
    (r : Bool) (hr : (decide (k = k') && decide (n = n') && decide (t = t') && decide (ks = ks') && decide (d = d') && decide (l.length = l'.length) && (List.range l.length).all (fun i => eqR j (l.getD i dfl) (l'.getD i dfl))) = r) (w : World) (hu : Up w0 w) :
    Calls Tryd.prog 13 #[.agg #[.int .i64 k, .int .i64 n, .string ⟨t.toArray⟩, .slice ka kl kc, .slice la ll lc, .slice da dl dc], .agg #[.int .i64 k', .int .i64 n', .string ⟨t'.toArray⟩, .slice ka' kl' kc', .slice la' ll' lc', .slice da' dl' dc']] w fun e w' => e = .returned (.bool r) ∧ Up w w' := by
  have HR := Lib.hid hr
  have HIH := Lib.hid ih
  have HU := Lib.hid hu
  have HL := Lib.hid hl
  have HL' := Lib.hid hl'
  have HLN := Lib.hid hl.2.2.1
  have HLN' := Lib.hid hl'.2.2.1
  have HC := Lib.hid hc
  have HC' := Lib.hid hc'
  have HJ := Lib.hid hj
  obtain ⟨tv, htv⟩ : ∃ tv, decide (ks = ks') = tv := ⟨_, rfl⟩
  obtain ⟨sv, hsv⟩ : ∃ sv, decide (d = d') = sv := ⟨_, rfl⟩
  have HTV := Lib.hid htv
  have HSV := Lib.hid hsv
  have HTX : Hid (∀ W, Up w W → Calls Tryd.prog 24 #[.slice ka kl kc, .slice ka' kl' kc'] W fun e w' => e = .returned (.bool tv) ∧ Up W w') := Lib.hid (fun W hW => texts_calls w0 ka kl kc ks ka' kl' kc' ks' hk hk' tv htv W (hu.call hW))
  have HSM : Hid (∀ W, Up w W → Calls Tryd.prog 12 #[.slice da dl dc, .slice da' dl' dc'] W fun e w' => e = .returned (.bool sv) ∧ Up W w') := Lib.hid (fun W hW => same_calls w0 da dl dc d da' dl' dc' d' hd hd' sv hsv W (hu.call hW))
  have l1 := hl.1
  have l2 := hl.2.1
  have l1' := hl'.1
  have l2' := hl'.2.1
  clear hk hl hd hc hj hk' hl' hd' hc' hr ih hu htv hsv
  by_cases e0 : k = k'
  rotate_left
  · obtain rfl : r = false := by rw [← HR.out]; simp only [e0, decide_false, Bool.false_and, Bool.and_false]
    have d0 : ((k : Int) != k') = true := by simp [e0]
    clear e0
    go_enter Tryd.func13, Tryd.ntmps13
    go_wp2
    go_ret
    exact ⟨rfl, by (repeat' (first | (with_reducible exact Up.refl _) | (with_reducible assumption) | (with_reducible refine Up.alloc ?_ _) | (with_reducible refine Up.drew ?_) | (with_reducible refine Up.drewN ?_ _) | (with_reducible refine Up.setCell ?_ ?_ _) | (with_reducible refine Up.call ?_ (by with_reducible assumption)) | go_size))⟩
  subst e0
  by_cases e1 : n = n'
  rotate_left
  · obtain rfl : r = false := by rw [← HR.out]; simp only [e1, decide_false, Bool.false_and, Bool.and_false]
    have d0 : ((n : Int) != n') = true := by simp [e1]
    clear e1
    go_enter Tryd.func13, Tryd.ntmps13
    go_wp2
    go_ret
    exact ⟨rfl, by (repeat' (first | (with_reducible exact Up.refl _) | (with_reducible assumption) | (with_reducible refine Up.alloc ?_ _) | (with_reducible refine Up.drew ?_) | (with_reducible refine Up.drewN ?_ _) | (with_reducible refine Up.setCell ?_ ?_ _) | (with_reducible refine Up.call ?_ (by with_reducible assumption)) | go_size))⟩
  subst e1
  by_cases e2 : t = t'
  rotate_left
  · obtain rfl : r = false := by rw [← HR.out]; simp only [e2, decide_false, Bool.false_and, Bool.and_false]
    have d0 : (t == t') = false := beq_eq_false_iff_ne.2 e2
    clear e2
    go_enter Tryd.func13, Tryd.ntmps13
    go_wp2
    go_ret
    exact ⟨rfl, by (repeat' (first | (with_reducible exact Up.refl _) | (with_reducible assumption) | (with_reducible refine Up.alloc ?_ _) | (with_reducible refine Up.drew ?_) | (with_reducible refine Up.drewN ?_ _) | (with_reducible refine Up.setCell ?_ ?_ _) | (with_reducible refine Up.call ?_ (by with_reducible assumption)) | go_size))⟩
  subst e2
  cases tv
  · obtain rfl : r = false := by rw [← HR.out]; simp only [HTV.out, Bool.false_and, Bool.and_false]
    have HA0 := Lib.hid ((BoxAt.new w #[.int .i64 k, .int .i64 n, .string ⟨t.toArray⟩, .slice ka kl kc, .slice la ll lc, .slice da dl dc]).up (Up.alloc (Up.refl _) (.cells #[.int .i64 k, .int .i64 n, .string ⟨t.toArray⟩, .slice ka' kl' kc', .slice la' ll' lc', .slice da' dl' dc'] 26)))
    have HB0 : Hid (BoxAt ((w.alloc (.cells #[.int .i64 k, .int .i64 n, .string ⟨t.toArray⟩, .slice ka kl kc, .slice la ll lc, .slice da dl dc] 26)).alloc (.cells #[.int .i64 k, .int .i64 n, .string ⟨t.toArray⟩, .slice ka' kl' kc', .slice la' ll' lc', .slice da' dl' dc'] 26)) (w.heap.size + 1) #[.int .i64 k, .int .i64 n, .string ⟨t.toArray⟩, .slice ka' kl' kc', .slice la' ll' lc', .slice da' dl' dc']) := Lib.hid (by have h9 := BoxAt.new (w.alloc (.cells #[.int .i64 k, .int .i64 n, .string ⟨t.toArray⟩, .slice ka kl kc, .slice la ll lc, .slice da dl dc] 26)) #[.int .i64 k, .int .i64 n, .string ⟨t.toArray⟩, .slice ka' kl' kc', .slice la' ll' lc', .slice da' dl' dc']; rwa [show (w.alloc (.cells #[.int .i64 k, .int .i64 n, .string ⟨t.toArray⟩, .slice ka kl kc, .slice la ll lc, .slice da dl dc] 26)).heap.size = w.heap.size + 1 by simp] at h9)
    go_enter Tryd.func13, Tryd.ntmps13
    go_wp2_with (first | (go_at_call 24; ((with_reducible refine Calls.mono (HTX.out _ ?_) ?_); (focus ((repeat' (first | (with_reducible exact Up.refl _) | (with_reducible assumption) | (with_reducible refine Up.alloc ?_ _) | (with_reducible refine Up.drew ?_) | (with_reducible refine Up.drewN ?_ _) | (with_reducible refine Up.setCell ?_ ?_ _) | (with_reducible refine Up.call ?_ (by with_reducible assumption)) | go_size)))); rintro e w1 ⟨rfl, hu1⟩; have HA1 := Lib.hid (BoxAt.up HA0.out hu1); have HB1 := Lib.hid (BoxAt.up HB0.out hu1); have p13 := HA1.out.cell 3 rfl; have q13 := HB1.out.cell 3 rfl; have p14 := HA1.out.cell 4 rfl; have q14 := HB1.out.cell 4 rfl; have p15 := HA1.out.cell 5 rfl; have q15 := HB1.out.cell 5 rfl; have lp1 := HA1.out.lt; have lq1 := HB1.out.lt)))
    go_ret
    exact ⟨rfl, by (repeat' (first | (with_reducible exact Up.refl _) | (with_reducible assumption) | (with_reducible refine Up.alloc ?_ _) | (with_reducible refine Up.drew ?_) | (with_reducible refine Up.drewN ?_ _) | (with_reducible refine Up.setCell ?_ ?_ _) | (with_reducible refine Up.call ?_ (by with_reducible assumption)) | go_size))⟩
  cases sv
  · obtain rfl : r = false := by rw [← HR.out]; simp only [HSV.out, Bool.false_and, Bool.and_false]
    have HA0 := Lib.hid ((BoxAt.new w #[.int .i64 k, .int .i64 n, .string ⟨t.toArray⟩, .slice ka kl kc, .slice la ll lc, .slice da dl dc]).up (Up.alloc (Up.refl _) (.cells #[.int .i64 k, .int .i64 n, .string ⟨t.toArray⟩, .slice ka' kl' kc', .slice la' ll' lc', .slice da' dl' dc'] 26)))
    have HB0 : Hid (BoxAt ((w.alloc (.cells #[.int .i64 k, .int .i64 n, .string ⟨t.toArray⟩, .slice ka kl kc, .slice la ll lc, .slice da dl dc] 26)).alloc (.cells #[.int .i64 k, .int .i64 n, .string ⟨t.toArray⟩, .slice ka' kl' kc', .slice la' ll' lc', .slice da' dl' dc'] 26)) (w.heap.size + 1) #[.int .i64 k, .int .i64 n, .string ⟨t.toArray⟩, .slice ka' kl' kc', .slice la' ll' lc', .slice da' dl' dc']) := Lib.hid (by have h9 := BoxAt.new (w.alloc (.cells #[.int .i64 k, .int .i64 n, .string ⟨t.toArray⟩, .slice ka kl kc, .slice la ll lc, .slice da dl dc] 26)) #[.int .i64 k, .int .i64 n, .string ⟨t.toArray⟩, .slice ka' kl' kc', .slice la' ll' lc', .slice da' dl' dc']; rwa [show (w.alloc (.cells #[.int .i64 k, .int .i64 n, .string ⟨t.toArray⟩, .slice ka kl kc, .slice la ll lc, .slice da dl dc] 26)).heap.size = w.heap.size + 1 by simp] at h9)
    go_enter Tryd.func13, Tryd.ntmps13
    go_wp2_with (first | (go_at_call 24; ((with_reducible refine Calls.mono (HTX.out _ ?_) ?_); (focus ((repeat' (first | (with_reducible exact Up.refl _) | (with_reducible assumption) | (with_reducible refine Up.alloc ?_ _) | (with_reducible refine Up.drew ?_) | (with_reducible refine Up.drewN ?_ _) | (with_reducible refine Up.setCell ?_ ?_ _) | (with_reducible refine Up.call ?_ (by with_reducible assumption)) | go_size)))); rintro e w1 ⟨rfl, hu1⟩; have HA1 := Lib.hid (BoxAt.up HA0.out hu1); have HB1 := Lib.hid (BoxAt.up HB0.out hu1); have p13 := HA1.out.cell 3 rfl; have q13 := HB1.out.cell 3 rfl; have p14 := HA1.out.cell 4 rfl; have q14 := HB1.out.cell 4 rfl; have p15 := HA1.out.cell 5 rfl; have q15 := HB1.out.cell 5 rfl; have lp1 := HA1.out.lt; have lq1 := HB1.out.lt)) | (go_at_call 12; ((with_reducible refine Calls.mono (HSM.out _ ?_) ?_); (focus ((repeat' (first | (with_reducible exact Up.refl _) | (with_reducible assumption) | (with_reducible refine Up.alloc ?_ _) | (with_reducible refine Up.drew ?_) | (with_reducible refine Up.drewN ?_ _) | (with_reducible refine Up.setCell ?_ ?_ _) | (with_reducible refine Up.call ?_ (by with_reducible assumption)) | go_size)))); rintro e w2 ⟨rfl, hu2⟩; have HA2 := Lib.hid (BoxAt.up HA1.out hu2); have HB2 := Lib.hid (BoxAt.up HB1.out hu2); have p23 := HA2.out.cell 3 rfl; have q23 := HB2.out.cell 3 rfl; have p24 := HA2.out.cell 4 rfl; have q24 := HB2.out.cell 4 rfl; have p25 := HA2.out.cell 5 rfl; have q25 := HB2.out.cell 5 rfl; have lp2 := HA2.out.lt; have lq2 := HB2.out.lt)))
    go_ret
    exact ⟨rfl, by (repeat' (first | (with_reducible exact Up.refl _) | (with_reducible assumption) | (with_reducible refine Up.alloc ?_ _) | (with_reducible refine Up.drew ?_) | (with_reducible refine Up.drewN ?_ _) | (with_reducible refine Up.setCell ?_ ?_ _) | (with_reducible refine Up.call ?_ (by with_reducible assumption)) | go_size))⟩
  by_cases e5 : ll = ll'
  rotate_left
  · obtain rfl : r = false := by rw [← HR.out]; simp only [HLN.out, HLN'.out, e5, decide_false, Bool.false_and, Bool.and_false]
    have d0 : ((ll : Int) != (ll' : Int)) = true := by simp; omega
    clear e5
    have HA0 := Lib.hid ((BoxAt.new w #[.int .i64 k, .int .i64 n, .string ⟨t.toArray⟩, .slice ka kl kc, .slice la ll lc, .slice da dl dc]).up (Up.alloc (Up.refl _) (.cells #[.int .i64 k, .int .i64 n, .string ⟨t.toArray⟩, .slice ka' kl' kc', .slice la' ll' lc', .slice da' dl' dc'] 26)))
    have HB0 : Hid (BoxAt ((w.alloc (.cells #[.int .i64 k, .int .i64 n, .string ⟨t.toArray⟩, .slice ka kl kc, .slice la ll lc, .slice da dl dc] 26)).alloc (.cells #[.int .i64 k, .int .i64 n, .string ⟨t.toArray⟩, .slice ka' kl' kc', .slice la' ll' lc', .slice da' dl' dc'] 26)) (w.heap.size + 1) #[.int .i64 k, .int .i64 n, .string ⟨t.toArray⟩, .slice ka' kl' kc', .slice la' ll' lc', .slice da' dl' dc']) := Lib.hid (by have h9 := BoxAt.new (w.alloc (.cells #[.int .i64 k, .int .i64 n, .string ⟨t.toArray⟩, .slice ka kl kc, .slice la ll lc, .slice da dl dc] 26)) #[.int .i64 k, .int .i64 n, .string ⟨t.toArray⟩, .slice ka' kl' kc', .slice la' ll' lc', .slice da' dl' dc']; rwa [show (w.alloc (.cells #[.int .i64 k, .int .i64 n, .string ⟨t.toArray⟩, .slice ka kl kc, .slice la ll lc, .slice da dl dc] 26)).heap.size = w.heap.size + 1 by simp] at h9)
    go_enter Tryd.func13, Tryd.ntmps13
    go_wp2_with (first | (go_at_call 24; ((with_reducible refine Calls.mono (HTX.out _ ?_) ?_); (focus ((repeat' (first | (with_reducible exact Up.refl _) | (with_reducible assumption) | (with_reducible refine Up.alloc ?_ _) | (with_reducible refine Up.drew ?_) | (with_reducible refine Up.drewN ?_ _) | (with_reducible refine Up.setCell ?_ ?_ _) | (with_reducible refine Up.call ?_ (by with_reducible assumption)) | go_size)))); rintro e w1 ⟨rfl, hu1⟩; have HA1 := Lib.hid (BoxAt.up HA0.out hu1); have HB1 := Lib.hid (BoxAt.up HB0.out hu1); have p13 := HA1.out.cell 3 rfl; have q13 := HB1.out.cell 3 rfl; have p14 := HA1.out.cell 4 rfl; have q14 := HB1.out.cell 4 rfl; have p15 := HA1.out.cell 5 rfl; have q15 := HB1.out.cell 5 rfl; have lp1 := HA1.out.lt; have lq1 := HB1.out.lt)) | (go_at_call 12; ((with_reducible refine Calls.mono (HSM.out _ ?_) ?_); (focus ((repeat' (first | (with_reducible exact Up.refl _) | (with_reducible assumption) | (with_reducible refine Up.alloc ?_ _) | (with_reducible refine Up.drew ?_) | (with_reducible refine Up.drewN ?_ _) | (with_reducible refine Up.setCell ?_ ?_ _) | (with_reducible refine Up.call ?_ (by with_reducible assumption)) | go_size)))); rintro e w2 ⟨rfl, hu2⟩; have HA2 := Lib.hid (BoxAt.up HA1.out hu2); have HB2 := Lib.hid (BoxAt.up HB1.out hu2); have p23 := HA2.out.cell 3 rfl; have q23 := HB2.out.cell 3 rfl; have p24 := HA2.out.cell 4 rfl; have q24 := HB2.out.cell 4 rfl; have p25 := HA2.out.cell 5 rfl; have q25 := HB2.out.cell 5 rfl; have lp2 := HA2.out.lt; have lq2 := HB2.out.lt)))
    go_ret
    exact ⟨rfl, by (repeat' (first | (with_reducible exact Up.refl _) | (with_reducible assumption) | (with_reducible refine Up.alloc ?_ _) | (with_reducible refine Up.drew ?_) | (with_reducible refine Up.drewN ?_ _) | (with_reducible refine Up.setCell ?_ ?_ _) | (with_reducible refine Up.call ?_ (by with_reducible assumption)) | go_size))⟩
  subst e5
  have HREST : Hid ((List.range ll).all (fun i => eqR j (l.getD i dfl) (l'.getD i dfl)) = r) := Lib.hid (by rw [← HR.out, HTV.out, HSV.out, HLN.out, HLN'.out]; simp)
  have HA0 := Lib.hid ((BoxAt.new w #[.int .i64 k, .int .i64 n, .string ⟨t.toArray⟩, .slice ka kl kc, .slice la ll lc, .slice da dl dc]).up (Up.alloc (Up.refl _) (.cells #[.int .i64 k, .int .i64 n, .string ⟨t.toArray⟩, .slice ka' kl' kc', .slice la' ll lc', .slice da' dl' dc'] 26)))
  have HB0 : Hid (BoxAt ((w.alloc (.cells #[.int .i64 k, .int .i64 n, .string ⟨t.toArray⟩, .slice ka kl kc, .slice la ll lc, .slice da dl dc] 26)).alloc (.cells #[.int .i64 k, .int .i64 n, .string ⟨t.toArray⟩, .slice ka' kl' kc', .slice la' ll lc', .slice da' dl' dc'] 26)) (w.heap.size + 1) #[.int .i64 k, .int .i64 n, .string ⟨t.toArray⟩, .slice ka' kl' kc', .slice la' ll lc', .slice da' dl' dc']) := Lib.hid (by have h9 := BoxAt.new (w.alloc (.cells #[.int .i64 k, .int .i64 n, .string ⟨t.toArray⟩, .slice ka kl kc, .slice la ll lc, .slice da dl dc] 26)) #[.int .i64 k, .int .i64 n, .string ⟨t.toArray⟩, .slice ka' kl' kc', .slice la' ll lc', .slice da' dl' dc']; rwa [show (w.alloc (.cells #[.int .i64 k, .int .i64 n, .string ⟨t.toArray⟩, .slice ka kl kc, .slice la ll lc, .slice da dl dc] 26)).heap.size = w.heap.size + 1 by simp] at h9)
  have HU00 := Lib.hid (show Up w ((w.alloc (.cells #[.int .i64 k, .int .i64 n, .string ⟨t.toArray⟩, .slice ka kl kc, .slice la ll lc, .slice da dl dc] 26)).alloc (.cells #[.int .i64 k, .int .i64 n, .string ⟨t.toArray⟩, .slice ka' kl' kc', .slice la' ll lc', .slice da' dl' dc'] 26)) by (repeat' (first | (with_reducible exact Up.refl _) | (with_reducible assumption) | (with_reducible refine Up.alloc ?_ _) | (with_reducible refine Up.drew ?_) | (with_reducible refine Up.drewN ?_ _) | (with_reducible refine Up.setCell ?_ ?_ _) | (with_reducible refine Up.call ?_ (by with_reducible assumption)) | go_size)))
  go_enter Tryd.func13, Tryd.ntmps13
  go_wp2_with (first | (go_at_call 24; ((with_reducible refine Calls.mono (HTX.out _ ?_) ?_); (focus ((repeat' (first | (with_reducible exact Up.refl _) | (with_reducible assumption) | (with_reducible refine Up.alloc ?_ _) | (with_reducible refine Up.drew ?_) | (with_reducible refine Up.drewN ?_ _) | (with_reducible refine Up.setCell ?_ ?_ _) | (with_reducible refine Up.call ?_ (by with_reducible assumption)) | go_size)))); rintro e w1 ⟨rfl, hu1⟩; have HA1 := Lib.hid (BoxAt.up HA0.out hu1); have HB1 := Lib.hid (BoxAt.up HB0.out hu1); have p13 := HA1.out.cell 3 rfl; have q13 := HB1.out.cell 3 rfl; have p14 := HA1.out.cell 4 rfl; have q14 := HB1.out.cell 4 rfl; have p15 := HA1.out.cell 5 rfl; have q15 := HB1.out.cell 5 rfl; have lp1 := HA1.out.lt; have lq1 := HB1.out.lt)) | (go_at_call 12; ((with_reducible refine Calls.mono (HSM.out _ ?_) ?_); (focus ((repeat' (first | (with_reducible exact Up.refl _) | (with_reducible assumption) | (with_reducible refine Up.alloc ?_ _) | (with_reducible refine Up.drew ?_) | (with_reducible refine Up.drewN ?_ _) | (with_reducible refine Up.setCell ?_ ?_ _) | (with_reducible refine Up.call ?_ (by with_reducible assumption)) | go_size)))); rintro e w2 ⟨rfl, hu2⟩; have HA2 := Lib.hid (BoxAt.up HA1.out hu2); have HB2 := Lib.hid (BoxAt.up HB1.out hu2); have p23 := HA2.out.cell 3 rfl; have q23 := HB2.out.cell 3 rfl; have p24 := HA2.out.cell 4 rfl; have q24 := HB2.out.cell 4 rfl; have p25 := HA2.out.cell 5 rfl; have q25 := HB2.out.cell 5 rfl; have lp2 := HA2.out.lt; have lq2 := HB2.out.lt)))
  go_loopw [5] (fun s5 wr => ∃ i : Nat, i ≤ ll ∧ s5 = .int .i64 i ∧ Hid ((List.range i).all (fun i => eqR j (l.getD i dfl) (l'.getD i dfl)) = true) ∧ Hid (Up w wr) ∧ Hid (BoxAt wr w.heap.size #[.int .i64 k, .int .i64 n, .string ⟨t.toArray⟩, .slice ka kl kc, .slice la ll lc, .slice da dl dc]) ∧ Hid (BoxAt wr (w.heap.size + 1) #[.int .i64 k, .int .i64 n, .string ⟨t.toArray⟩, .slice ka' kl' kc', .slice la' ll lc', .slice da' dl' dc'])) (fun s5 _ => ll - (intOf s5).toNat)
  case atStart => exact ⟨0, Nat.zero_le _, rfl, Lib.hid rfl, Lib.hid (by (repeat' (first | (with_reducible exact Up.refl _) | (with_reducible assumption) | (with_reducible refine Up.alloc ?_ _) | (with_reducible refine Up.drew ?_) | (with_reducible refine Up.drewN ?_ _) | (with_reducible refine Up.setCell ?_ ?_ _) | (with_reducible refine Up.call ?_ (by with_reducible assumption)) | go_size))), HA2, HB2⟩
  case round =>
    obtain ⟨i, hi, rfl, HALL, HUP, HXA, HXB⟩ := hrel
    clear p13 p14 p15 q13 q14 q15 p23 p24 p25 q23 q24 q25 lp1 lq1 lp2 lq2
    have y4 := HXA.out.cell 4 rfl
    have z4 := HXB.out.cell 4 rfl
    have lya := HXA.out.lt
    have lyb := HXB.out.lt
    have HU0W := Lib.hid (HU.out.call HUP.out)
    by_cases hlt : i < ll
    · have dlt : decide (i < ll) = true := decide_eq_true hlt
      obtain ⟨ga, oa, rfl, hga, hca⟩ := sl_some HL.out (by omega)
      obtain ⟨gb, ob, rfl, hgb, hcb⟩ := sl_some HL'.out (by omega)
      obtain ⟨c, hx⟩ : ∃ x, l[i]? = some x := ⟨_, List.getElem?_eq_getElem (by have := HLN.out; omega)⟩
      obtain ⟨c', hy⟩ : ∃ y, l'[i]? = some y := ⟨_, List.getElem?_eq_getElem (by have := HLN'.out; omega)⟩
      have lga : ga < wr.heap.size := Nat.lt_of_lt_of_le hga HU0W.out.size
      have lgb : gb < wr.heap.size := Nat.lt_of_lt_of_le hgb HU0W.out.size
      have hm := List.mem_of_getElem? hx
      have HREC := Lib.hid (fun W hW => HIH.out c c' W (HC.out c hm) (HC'.out c' (List.mem_of_getElem? hy)) (HJ.out c hm) hW)
      obtain ⟨v, hv⟩ : ∃ v, eqR j c c' = v := ⟨_, rfl⟩
      have HV := Lib.hid (show eqR j (l.getD i dfl) (l'.getD i dfl) = v by rw [getD_of hx, getD_of hy]; exact hv)
      rw [hv] at HREC
      have HX := Lib.hid hx
      have HY := Lib.hid hy
      obtain ⟨ck, cn, ct, cka, ckl, ckc, cks, cla, cll, clc, cl, cda, cdl, cdc, cd⟩ := c
      obtain ⟨bk, bn, bt, bka, bkl, bkc, bks, bla, bll, blc, bl, bda, bdl, bdc, bd⟩ := c'
      have HREC2 : Hid (∀ W, Up w0 W → Calls Tryd.prog 13 #[.agg #[.int .i64 ck, .int .i64 cn, .string ⟨ct.toArray⟩, .slice cka ckl ckc, .slice cla cll clc, .slice cda cdl cdc], .agg #[.int .i64 bk, .int .i64 bn, .string ⟨bt.toArray⟩, .slice bka bkl bkc, .slice bla bll blc, .slice bda bdl bdc]] W fun e w' => e = .returned (.bool v) ∧ Up W w') := HREC
      obtain ⟨e0, e1, e2, e3, e4, e5⟩ := po_at hga hca HU0W.out HX.out
      obtain ⟨f0, f1, f2, f3, f4, f5⟩ := po_at hgb hcb HU0W.out HY.out
      clear hx hy hca hcb hga hgb HREC hv hm
      cases v
      · obtain rfl : r = false := by rw [← HREST.out]; rw [List.all_eq_false]; exact ⟨i, List.mem_range.2 hlt, by rw [HV.out]; simp⟩
        go_wp2
        go_region_law (go_simp; go_at_call 13; ((with_reducible refine Calls.mono (HREC2.out _ ?_) ?_); (focus (first | exact HU0W.out | exact Up.drew HU0W.out)); rintro e w7 ⟨rfl, hu7⟩))
        all_goals
          go_wp2
          go_ret
          exact ⟨rfl, (by first | exact HUP.out.call hu7 | exact (Up.drew HUP.out).call hu7)⟩
      · go_wp2
        go_region_law (go_simp; go_at_call 13; ((with_reducible refine Calls.mono (HREC2.out _ ?_) ?_); (focus (first | exact HU0W.out | exact Up.drew HU0W.out)); rintro e w7 ⟨rfl, hu7⟩))
        all_goals
          go_wp2
          go_roundw
        all_goals try (case measure => simp [intOf]; omega)
        all_goals exact ⟨i + 1, by omega, by go_num, Lib.hid (by rw [List.range_succ, List.all_append, HALL.out]; simp only [List.all_cons, List.all_nil, HV.out, Bool.and_true]), Lib.hid (by first | exact HUP.out.call hu7 | exact (Up.drew HUP.out).call hu7), Lib.hid (by first | exact HXA.out.up hu7 | exact (HXA.out.up (Up.drew (Up.refl _))).up hu7), Lib.hid (by first | exact HXB.out.up hu7 | exact (HXB.out.up (Up.drew (Up.refl _))).up hu7)⟩
    · have dlt : decide (i < ll) = false := decide_eq_false hlt
      obtain rfl : ll = i := by omega
      obtain rfl : r = true := by rw [← HREST.out]; exact HALL.out
      go_wp2
      go_ret
      exact ⟨rfl, HUP.out⟩

theorem equal_calls (w0 : World) : ∀ (j : Nat) (a b : PO) (W : World), POk w0 a → POk w0 b → lightR j a = true → Up w0 W → Calls Tryd.prog 13 #[.agg a.cells.toArray, .agg b.cells.toArray] W fun e w' => e = .returned (.bool (eqR j a b)) ∧ Up W w' := by
  intro j
  induction j with
  | zero => intro a b W _ _ h; cases h
  | succ j ih =>
    intro a b W ha hb hlt hu
    obtain ⟨j', ej, -, -, -, -, -, j6⟩ := lightR_elim hlt
    obtain rfl : j = j' := by omega
    cases ha with
    | mk k n t ka kl kc ks la ll lc l da dl dc d hn hk hl hc hd =>
    cases hb with
    | mk k' n' t' ka' kl' kc' ks' la' ll' lc' l' da' dl' dc' d' hn' hk' hl' hc' hd' =>
    exact equal_step j w0 ih k n t ka kl kc ks la ll lc l da dl dc d k' n' t' ka' kl' kc' ks' la' ll' lc' l' da' dl' dc' d' hk hl hd hc j6 hk' hl' hd' hc' _ rfl W hu

end Go.Proofs.YtaafelkdhahaoaaDoor.Pob
