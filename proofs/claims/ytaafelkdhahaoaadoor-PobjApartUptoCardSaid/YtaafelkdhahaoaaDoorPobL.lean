/- Law 18's light of any object. No condition. -/
import Derived.Test.YtaafelkdhahaoaaDoorPobT
namespace Go.Proofs.YtaafelkdhahaoaaDoor.Pob
open Go.ChangeShapes Go.WideShapes Go.RowKit Go.Shelf
set_option linter.unusedVariables false
set_option linter.unusedSimpArgs false


/-- law 18's light -/
def lightR : Nat → PO → Bool
  | 0, _ => false
  | n + 1, o => decide (o.l.length ≤ 300) && decide (o.ks.length ≤ 300) && decide (o.t.length ≤ 70000) && decide (o.d.length ≤ 5000) && o.ks.all (fun s => decide (s.length ≤ 300)) && o.l.all (lightR n)
theorem lightR_elim {n : Nat} {o : PO} (h : lightR n o = true) : ∃ m, n = m + 1 ∧ o.l.length ≤ 300 ∧ o.ks.length ≤ 300 ∧ o.t.length ≤ 70000 ∧ o.d.length ≤ 5000 ∧ (∀ s ∈ o.ks, s.length ≤ 300) ∧ ∀ c ∈ o.l, lightR m c = true := by
  cases n with
  | zero => cases h
  | succ m =>
    simp only [lightR, Bool.and_eq_true, decide_eq_true_eq, List.all_eq_true] at h
    exact ⟨m, rfl, h.1.1.1.1.1, h.1.1.1.1.2, h.1.1.1.2, h.1.1.2, h.1.2, h.2⟩
theorem all_step {α : Type} {p : α → Bool} {l : List α} {k : Nat} {c : α} (hk : l[k]? = some c) (h : (l.take k).all p = true) (hc : p c = true) : (l.take (k + 1)).all p = true := by
  rw [List.take_add_one, hk]
  simp only [Option.toList_some, List.all_append, h, List.all_cons, hc, List.all_nil, Bool.and_self]
theorem all_miss {α : Type} {p : α → Bool} {l : List α} {k : Nat} {c : α} (hk : l[k]? = some c) (hc : p c = false) : l.all p = false := by
  rw [List.all_eq_false]
  exact ⟨c, List.mem_of_getElem? hk, by simp [hc]⟩
theorem all_full {α : Type} {p : α → Bool} {l : List α} {k : Nat} (hk : l.length = k) (h : (l.take k).all p = true) : l.all p = true := by
  rwa [List.take_of_length_le (by omega)] at h
theorem po_at {w wr : World} {b o k : Nat} {l : List PO} (hb : b < w.heap.size) (hc : ∀ (i : Nat) (s : PO) (j : Nat) (u : Value), l[i]? = some s → s.cells[j]? = some u → w.cell? ⟨b, o + i * 6 + j, none⟩ = some u) (hu : Up w wr) {ck cn : Int} {ct : List UInt8} {cka : Option Addr} {ckl ckc : Nat} {cks : List (List UInt8)} {cla : Option Addr} {cll clc : Nat} {cl : List PO} {cda : Option Addr} {cdl cdc : Nat} {cd : List UInt8} (hk : l[k]? = some (.mk ck cn ct cka ckl ckc cks cla cll clc cl cda cdl cdc cd)) :
    wr.cell? ⟨b, o + k * 6, none⟩ = some (.int .i64 ck) ∧ wr.cell? ⟨b, o + k * 6 + 1, none⟩ = some (.int .i64 cn) ∧ wr.cell? ⟨b, o + k * 6 + 2, none⟩ = some (.string ⟨ct.toArray⟩) ∧ wr.cell? ⟨b, o + k * 6 + 3, none⟩ = some (.slice cka ckl ckc) ∧ wr.cell? ⟨b, o + k * 6 + 4, none⟩ = some (.slice cla cll clc) ∧ wr.cell? ⟨b, o + k * 6 + 5, none⟩ = some (.slice cda cdl cdc) :=
  ⟨(hu.cells.1 b _ hb).trans (hc k _ 0 _ hk rfl), (hu.cells.1 b _ hb).trans (hc k _ 1 _ hk rfl), (hu.cells.1 b _ hb).trans (hc k _ 2 _ hk rfl), (hu.cells.1 b _ hb).trans (hc k _ 3 _ hk rfl), (hu.cells.1 b _ hb).trans (hc k _ 4 _ hk rfl), (hu.cells.1 b _ hb).trans (hc k _ 5 _ hk rfl)⟩
/-- a list that came in, where it has elements -/
theorem sl_some {α : Type} {K : Nat} {cells : α → List Value} {w : World} {a : Option Addr} {len cap : Nat} {l : List α} (h : Sl K cells w a len cap l) (h0 : 0 < len) : ∃ b o, a = some ⟨b, o, none⟩ ∧ b < w.heap.size ∧ ∀ (i : Nat) (s : α) (j : Nat) (u : Value), l[i]? = some s → (cells s)[j]? = some u → w.cell? ⟨b, o + i * K + j, none⟩ = some u := h.2.2.2.2 h0

set_option maxRecDepth 8000 in
set_option maxHeartbeats 4000000 in
theorem light_calls : ∀ (m : Nat) (o : PO) (q : Int) (w : World), q = (m : Int) - 1 → POk w o → m ≤ 100 → Calls Tryd.prog 7 #[.agg o.cells.toArray, .int .i64 q] w fun e w' => e = .returned (.bool (lightR m o)) ∧ Up w w' := by
  intro m
  induction m with
  | zero =>
    intro o q w hq h hm
    obtain ⟨k, n, t, ka, kl, kc, ks, la, ll, lc, l, da, dl, dc, d⟩ := o
    obtain rfl : q = -1 := by omega
    show Calls _ _ #[.agg #[.int .i64 k, .int .i64 n, .string ⟨t.toArray⟩, .slice ka kl kc, .slice la ll lc, .slice da dl dc], _] _ _
    clear h hq
    go_enter Tryd.func7, Tryd.ntmps7
    go_wp2
    go_ret
    exact ⟨rfl, by (repeat' (first | (with_reducible exact Up.refl _) | (with_reducible assumption) | (with_reducible refine Up.alloc ?_ _) | (with_reducible refine Up.drew ?_) | (with_reducible refine Up.drewN ?_ _) | (with_reducible refine Up.setCell ?_ ?_ _) | (with_reducible refine Up.call ?_ (by with_reducible assumption)) | go_size))⟩
  | succ m ih =>
    intro o q w hq h hm
    cases h with
    | mk k n t ka kl kc ks la ll lc l da dl dc d hn hk hl hc hd =>
    obtain rfl : q = (m : Int) := by omega
    clear hq
    have HIH := Lib.hid ih
    have HK := Lib.hid hk
    have HL := Lib.hid hl
    have HC := Lib.hid hc
    have k1 := hk.1
    have k2 := hk.2.1
    have l1 := hl.1
    have l2 := hl.2.1
    obtain ⟨r, hr⟩ : ∃ r, lightR (m + 1) (.mk k n t ka kl kc ks la ll lc l da dl dc d) = r := ⟨_, rfl⟩
    rw [hr]
    have HR := Lib.hid hr
    have HLN := Lib.hid hl.2.2.1
    have HKN := Lib.hid hk.2.2.1
    have HDN := Lib.hid hd.2.2.1
    show Calls _ _ #[.agg #[.int .i64 k, .int .i64 n, .string ⟨t.toArray⟩, .slice ka kl kc, .slice la ll lc, .slice da dl dc], _] _ _
    clear ih hk hl hc hd hr hn
    by_cases b1 : ll ≤ 300
    rotate_left
    · have d1 : decide ((300 : Int) < (ll : Int)) = true := decide_eq_true (by omega)
      obtain rfl : r = false := by have h9 := HR.out; rw [← h9]; simp only [lightR, PO.l, HLN.out, b1, decide_false, Bool.false_and]
      clear b1
      go_enter Tryd.func7, Tryd.ntmps7
      go_wp2
      go_ret
      exact ⟨rfl, by (repeat' (first | (with_reducible exact Up.refl _) | (with_reducible assumption) | (with_reducible refine Up.alloc ?_ _) | (with_reducible refine Up.drew ?_) | (with_reducible refine Up.drewN ?_ _) | (with_reducible refine Up.setCell ?_ ?_ _) | (with_reducible refine Up.call ?_ (by with_reducible assumption)) | go_size))⟩
    by_cases b2 : kl ≤ 300
    rotate_left
    · have d2 : decide ((300 : Int) < (kl : Int)) = true := decide_eq_true (by omega)
      obtain rfl : r = false := by have h9 := HR.out; rw [← h9]; simp only [lightR, PO.ks, HKN.out, b2, decide_false, Bool.false_and, Bool.and_false]
      clear b2
      go_enter Tryd.func7, Tryd.ntmps7
      go_wp2
      go_ret
      exact ⟨rfl, by (repeat' (first | (with_reducible exact Up.refl _) | (with_reducible assumption) | (with_reducible refine Up.alloc ?_ _) | (with_reducible refine Up.drew ?_) | (with_reducible refine Up.drewN ?_ _) | (with_reducible refine Up.setCell ?_ ?_ _) | (with_reducible refine Up.call ?_ (by with_reducible assumption)) | go_size))⟩
    by_cases b3 : t.length ≤ 70000
    rotate_left
    · have d3 : decide ((70000 : Int) < (t.length : Int)) = true := decide_eq_true (by omega)
      obtain rfl : r = false := by have h9 := HR.out; rw [← h9]; simp only [lightR, PO.t, b3, decide_false, Bool.false_and, Bool.and_false]
      clear b3
      go_enter Tryd.func7, Tryd.ntmps7
      go_wp2
      go_ret
      exact ⟨rfl, by (repeat' (first | (with_reducible exact Up.refl _) | (with_reducible assumption) | (with_reducible refine Up.alloc ?_ _) | (with_reducible refine Up.drew ?_) | (with_reducible refine Up.drewN ?_ _) | (with_reducible refine Up.setCell ?_ ?_ _) | (with_reducible refine Up.call ?_ (by with_reducible assumption)) | go_size))⟩
    by_cases b4 : dl ≤ 5000
    rotate_left
    · have d4 : decide ((5000 : Int) < (dl : Int)) = true := decide_eq_true (by omega)
      obtain rfl : r = false := by have h9 := HR.out; rw [← h9]; simp only [lightR, PO.d, HDN.out, b4, decide_false, Bool.false_and, Bool.and_false]
      clear b4
      go_enter Tryd.func7, Tryd.ntmps7
      go_wp2
      go_ret
      exact ⟨rfl, by (repeat' (first | (with_reducible exact Up.refl _) | (with_reducible assumption) | (with_reducible refine Up.alloc ?_ _) | (with_reducible refine Up.drew ?_) | (with_reducible refine Up.drewN ?_ _) | (with_reducible refine Up.setCell ?_ ?_ _) | (with_reducible refine Up.call ?_ (by with_reducible assumption)) | go_size))⟩
    have HREST : Hid (r = (ks.all (fun s => decide (s.length ≤ 300)) && l.all (lightR m))) := Lib.hid (by rw [← HR.out]; simp only [lightR, PO.l, PO.ks, PO.t, PO.d, HLN.out, HKN.out, HDN.out, b1, b2, b3, b4, decide_true, Bool.true_and])
    go_enter Tryd.func7, Tryd.ntmps7
    go_wp2
    go_loop [5] (fun s5 => ∃ j : Nat, j ≤ kl ∧ s5 = .int .i64 j ∧ Hid ((ks.take j).all (fun s => decide (s.length ≤ 300)) = true)) (fun s5 => kl - (intOf s5).toNat)
    case atStart => exact ⟨0, Nat.zero_le _, rfl, Lib.hid rfl⟩
    case round =>
      obtain ⟨j, hj, rfl, HA⟩ := hrel
      by_cases hlt : j < kl
      · obtain ⟨b, o, rfl, hb, hc⟩ := sl_some HK.out (by omega)
        obtain ⟨s, hs⟩ : ∃ s, ks[j]? = some s := ⟨_, List.getElem?_eq_getElem (by have := HKN.out; omega)⟩
        have q0 : w.cell? ⟨b, o + j, none⟩ = some (.string ⟨s.toArray⟩) := by have := hc j s 0 _ hs rfl; simpa using this
        have HS := Lib.hid hs
        clear hc hs
        by_cases hb3 : s.length ≤ 300
        · have d5 : decide ((300 : Int) < (s.length : Int)) = false := decide_eq_false (by omega)
          have HB := Lib.hid (show decide (s.length ≤ 300) = true from decide_eq_true hb3)
          clear hb3
          go_wp2
          go_round
          case rel => exact ⟨j + 1, by omega, by go_num, Lib.hid (all_step HS.out HA.out HB.out)⟩
          case measure => simp [intOf]; omega
        · have d5 : decide ((300 : Int) < (s.length : Int)) = true := decide_eq_true (by omega)
          obtain rfl : r = false := by rw [HREST.out, all_miss HS.out (decide_eq_false hb3), Bool.false_and]
          clear hb3
          go_wp2
          go_ret
          exact ⟨rfl, by (repeat' (first | (with_reducible exact Up.refl _) | (with_reducible assumption) | (with_reducible refine Up.alloc ?_ _) | (with_reducible refine Up.drew ?_) | (with_reducible refine Up.drewN ?_ _) | (with_reducible refine Up.setCell ?_ ?_ _) | (with_reducible refine Up.call ?_ (by with_reducible assumption)) | go_size))⟩
      · have hcast : decide (j < kl) = false := decide_eq_false hlt
        obtain rfl : kl = j := by omega
        have HA2 := Lib.hid (all_full HKN.out HA.out)
        clear HA
        go_wp2
        go_loopw [6] (fun s6 wr => ∃ i : Nat, i ≤ ll ∧ s6 = .int .i64 i ∧ Hid ((l.take i).all (lightR m) = true) ∧ Up (w.alloc (.cells #[.int .i64 k, .int .i64 n, .string ⟨t.toArray⟩, .slice ka kl kc, .slice la ll lc, .slice da dl dc] 26)) wr) (fun s6 _ => ll - (intOf s6).toNat)
        case atStart => exact ⟨0, Nat.zero_le _, rfl, Lib.hid rfl, Up.refl _⟩
        case round =>
          obtain ⟨i, hi, rfl, HA, hup⟩ := hrel
          have HUW : Hid (Up w wr) := Lib.hid ((Up.alloc (Up.refl w) _).call hup)
          have zr := hup.size
          simp at zr
          have x4 := (hup.cells.1 w.heap.size 4 (by simp)).trans (show (w.alloc (.cells #[.int .i64 k, .int .i64 n, .string ⟨t.toArray⟩, .slice ka kl kc, .slice la ll lc, .slice da dl dc] 26)).cell? ⟨w.heap.size, 4, none⟩ = some (.slice la ll lc) from (show Row (w.alloc (.cells #[.int .i64 k, .int .i64 n, .string ⟨t.toArray⟩, .slice ka kl kc, .slice la ll lc, .slice da dl dc] 26)) w.heap.size #[.int .i64 k, .int .i64 n, .string ⟨t.toArray⟩, .slice ka kl kc, .slice la ll lc, .slice da dl dc] by (repeat' (first | (with_reducible assumption) | (with_reducible refine Row.at _ _ ?_; (simp; done)) | (with_reducible refine Row.alloc ?_ _) | (with_reducible refine Row.drew ?_) | (with_reducible refine Row.drewN ?_ _) | (with_reducible refine Row.other ?_ (by first | (simp; done) | (simp; omega) | omega) _) | (with_reducible refine Row.up ?_ (by with_reducible assumption)) | (with_reducible refine Row.chg ?_ (by with_reducible assumption) (by first | (simp; done) | (simp; omega)))))).cell 4 rfl)
          by_cases hli : i < ll
          · obtain ⟨b, o, rfl, hb, hc⟩ := sl_some HL.out (by omega)
            obtain ⟨c, hc2⟩ : ∃ c, l[i]? = some c := ⟨_, List.getElem?_eq_getElem (by have := HLN.out; omega)⟩
            have hok := HC.out c (List.mem_of_getElem? hc2)
            have HOK := Lib.hid hok
            obtain ⟨v, hv⟩ : ∃ v, lightR m c = v := ⟨_, rfl⟩
            have HV := Lib.hid hv
            obtain ⟨ck, cn, ct, cka, ckl, ckc, cks, cla, cll, clc, cl, cda, cdl, cdc, cd⟩ := c
            obtain ⟨e0, e1, e2, e3, e4, e5⟩ := po_at hb hc HUW.out hc2
            have HREC : Hid (∀ W, Up w W → Calls Tryd.prog 7 #[.agg #[.int .i64 ck, .int .i64 cn, .string ⟨ct.toArray⟩, .slice cka ckl ckc, .slice cla cll clc, .slice cda cdl cdc], .int .i64 ((m : Int) - 1)] W fun e w' => e = .returned (.bool v) ∧ Up W w') := Lib.hid (fun W hu => by rw [← HV.out]; exact HIH.out (.mk ck cn ct cka ckl ckc cks cla cll clc cl cda cdl cdc cd) _ W rfl (HOK.out.up hu) (by omega))
            have HC2 := Lib.hid hc2
            clear hc hc2 hok hv
            cases v
            · obtain rfl : r = false := by rw [HREST.out, all_miss HC2.out HV.out, Bool.and_false]
              go_wp2_with (go_at_call 7; ((with_reducible refine (HREC.out _ (by first | exact HUW.out | exact Up.drew HUW.out)).mono ?_); rintro E w1 ⟨rfl, hu1⟩))
              go_ret
              exact ⟨rfl, HUW.out.call hu1⟩
            · go_wp2_with (go_at_call 7; ((with_reducible refine (HREC.out _ (by first | exact HUW.out | exact Up.drew HUW.out)).mono ?_); rintro E w1 ⟨rfl, hu1⟩))
              go_roundw
              case rel => exact ⟨i + 1, by omega, by go_num, Lib.hid (all_step HC2.out HA.out HV.out), hup.call hu1⟩
              case measure => simp [intOf]; omega
          · have hcast : decide (i < ll) = false := decide_eq_false hli
            obtain rfl : ll = i := by omega
            obtain rfl : r = true := by rw [HREST.out, HA2.out, all_full HLN.out HA.out]; rfl
            go_wp2
            go_ret
            exact ⟨rfl, HUW.out⟩

end Go.Proofs.YtaafelkdhahaoaaDoor.Pob
