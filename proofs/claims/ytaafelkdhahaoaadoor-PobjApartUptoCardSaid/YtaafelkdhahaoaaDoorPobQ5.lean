/- The reference's Print of any sound object. Its condition: an object that is not too large. -/
import Derived.Test.YtaafelkdhahaoaaDoorPobQ2
import Derived.Test.YtaafelkdhahaoaaDoorPobP
namespace Go.Proofs.YtaafelkdhahaoaaDoor.Pob
open Go.ChangeShapes Go.WideShapes Go.RowKit Go.Shelf
set_option linter.unusedVariables false
set_option linter.unusedSimpArgs false

/-- the reference prints an object so, in any world behind w0 -/
abbrev RPC (w0 : World) (R : List UInt8) (cs : Array Value) : Prop := ∀ W, Up w0 W → Calls Tryd.prog 11 #[.agg cs] W fun e w' => e = .returned (.string ⟨R.toArray⟩) ∧ Up W w'
/-- string(..) of bytes that came in -/
theorem data_conv {w0 W : World} {da : Option Addr} {dl dc : Nat} {d : List UInt8} (hd : Sl 1 dcells w0 da dl dc d) (hu : Up w0 W) : (convert 24 9 (.slice da dl dc)).run Tryd.prog W = .ok (.string ⟨d.toArray⟩) W := by
  obtain ⟨h1, h2, h3, h4, h5⟩ := hd
  subst h3
  cases da with
  | none =>
    obtain ⟨h6, h7⟩ := h4 rfl
    have hd0 : d = [] := List.eq_nil_of_length_eq_zero h6
    subst hd0
    subst h7
    show (convert 24 9 (.slice none 0 0)).run Tryd.prog W = _
    rw [run_convert_bytes_string W 24 9 5 none 0 0 Tryd.underlying24 Tryd.underlying5 Tryd.underlying9]
    rfl
  | some a =>
    refine run_convert_bytes_back W 24 9 5 a dc d Tryd.underlying24 Tryd.underlying5 Tryd.underlying9 (fun j hj => ?_)
    obtain ⟨b, o, e, hb, hc⟩ := h5 (by omega)
    obtain rfl := Option.some.inj e
    rw [add_plain, hu.cells.1 b _ hb]
    have := hc j d[j] 0 _ (List.getElem?_eq_getElem hj) rfl
    simpa using this

set_option maxRecDepth 8000 in
set_option maxHeartbeats 4000000 in
theorem rp_k0 (n : Int) (t : List UInt8) (ka : Option Addr) (kl kc : Nat) (la : Option Addr) (ll lc : Nat) (da : Option Addr) (dl dc : Nat)  (w : World) :
    Calls Tryd.prog 11 #[.agg #[.int .i64 0, .int .i64 n, .string ⟨t.toArray⟩, .slice ka kl kc, .slice la ll lc, .slice da dl dc]] w fun e w' => e = .returned (.string ⟨([110, 117, 108, 108] : List UInt8).toArray⟩) ∧ Up w w' := by
  go_enter Tryd.func11, Tryd.ntmps11
  go_wp2
  go_ret
  exact ⟨rfl, by (repeat' (first | (with_reducible exact Up.refl _) | (with_reducible assumption) | (with_reducible refine Up.alloc ?_ _) | (with_reducible refine Up.drew ?_) | (with_reducible refine Up.drewN ?_ _) | (with_reducible refine Up.setCell ?_ ?_ _) | (with_reducible refine Up.call ?_ (by with_reducible assumption)) | go_size))⟩

set_option maxRecDepth 8000 in
set_option maxHeartbeats 4000000 in
theorem rp_k1t (n : Int) (t : List UInt8) (ka : Option Addr) (kl kc : Nat) (la : Option Addr) (ll lc : Nat) (da : Option Addr) (dl dc : Nat) (hn : n = 1) (w : World) :
    Calls Tryd.prog 11 #[.agg #[.int .i64 1, .int .i64 n, .string ⟨t.toArray⟩, .slice ka kl kc, .slice la ll lc, .slice da dl dc]] w fun e w' => e = .returned (.string ⟨([116, 114, 117, 101] : List UInt8).toArray⟩) ∧ Up w w' := by
  have d1 : ((n : Int) == 1) = true := by simp [hn]
  clear hn
  go_enter Tryd.func11, Tryd.ntmps11
  go_wp2
  go_ret
  exact ⟨rfl, by (repeat' (first | (with_reducible exact Up.refl _) | (with_reducible assumption) | (with_reducible refine Up.alloc ?_ _) | (with_reducible refine Up.drew ?_) | (with_reducible refine Up.drewN ?_ _) | (with_reducible refine Up.setCell ?_ ?_ _) | (with_reducible refine Up.call ?_ (by with_reducible assumption)) | go_size))⟩

set_option maxRecDepth 8000 in
set_option maxHeartbeats 4000000 in
theorem rp_k1f (n : Int) (t : List UInt8) (ka : Option Addr) (kl kc : Nat) (la : Option Addr) (ll lc : Nat) (da : Option Addr) (dl dc : Nat) (hn : n ≠ 1) (w : World) :
    Calls Tryd.prog 11 #[.agg #[.int .i64 1, .int .i64 n, .string ⟨t.toArray⟩, .slice ka kl kc, .slice la ll lc, .slice da dl dc]] w fun e w' => e = .returned (.string ⟨([102, 97, 108, 115, 101] : List UInt8).toArray⟩) ∧ Up w w' := by
  have d1 : ((n : Int) == 1) = false := by simp [hn]
  clear hn
  go_enter Tryd.func11, Tryd.ntmps11
  go_wp2
  go_ret
  exact ⟨rfl, by (repeat' (first | (with_reducible exact Up.refl _) | (with_reducible assumption) | (with_reducible refine Up.alloc ?_ _) | (with_reducible refine Up.drew ?_) | (with_reducible refine Up.drewN ?_ _) | (with_reducible refine Up.setCell ?_ ?_ _) | (with_reducible refine Up.call ?_ (by with_reducible assumption)) | go_size))⟩

set_option maxRecDepth 8000 in
set_option maxHeartbeats 4000000 in
theorem rp_k2 (n : Int) (t : List UInt8) (ka : Option Addr) (kl kc : Nat) (la : Option Addr) (ll lc : Nat) (da : Option Addr) (dl dc : Nat) (h1 : -2147483648 ≤ n) (h2 : n ≤ 2147483647) (w : World) :
    Calls Tryd.prog 11 #[.agg #[.int .i64 2, .int .i64 n, .string ⟨t.toArray⟩, .slice ka kl kc, .slice la ll lc, .slice da dl dc]] w fun e w' => e = .returned (.string ⟨(intL n : List UInt8).toArray⟩) ∧ Up w w' := by
  obtain ⟨L, hL⟩ : ∃ L, intL n = L := ⟨_, rfl⟩
  rw [hL]
  have HC : Hid (∀ W, Calls Tryd.prog 20 #[.int .i64 n] W fun e w' => e = .returned (.string ⟨L.toArray⟩) ∧ Up W w') := Lib.hid (fun W => by rw [← hL]; exact rdec_calls n h1 h2 W)
  clear hL
  go_enter Tryd.func11, Tryd.ntmps11
  go_wp2_with (go_at_call 20; ((with_reducible refine (HC.out _).mono ?_); rintro e w1 ⟨rfl, hu1⟩))
  go_ret
  exact ⟨rfl, by (repeat' (first | (with_reducible exact Up.refl _) | (with_reducible assumption) | (with_reducible refine Up.alloc ?_ _) | (with_reducible refine Up.drew ?_) | (with_reducible refine Up.drewN ?_ _) | (with_reducible refine Up.setCell ?_ ?_ _) | (with_reducible refine Up.call ?_ (by with_reducible assumption)) | go_size))⟩

set_option maxRecDepth 8000 in
set_option maxHeartbeats 4000000 in
theorem rp_k3 (n : Int) (t : List UInt8) (ka : Option Addr) (kl kc : Nat) (la : Option Addr) (ll lc : Nat) (da : Option Addr) (dl dc : Nat) (h1 : -2147483648 ≤ n) (h2 : n ≤ 2147483647) (w : World) :
    Calls Tryd.prog 11 #[.agg #[.int .i64 3, .int .i64 n, .string ⟨t.toArray⟩, .slice ka kl kc, .slice la ll lc, .slice da dl dc]] w fun e w' => e = .returned (.string ⟨(prR n : List UInt8).toArray⟩) ∧ Up w w' := by
  obtain ⟨L, hL⟩ : ∃ L, prR n = L := ⟨_, rfl⟩
  rw [hL]
  have HC : Hid (∀ W, Calls Tryd.prog 21 #[.int .i64 n] W fun e w' => e = .returned (.string ⟨L.toArray⟩) ∧ Up W w') := Lib.hid (fun W => by rw [← hL]; exact rprintReal_calls n h1 h2 W)
  clear hL
  go_enter Tryd.func11, Tryd.ntmps11
  go_wp2_with (go_at_call 21; ((with_reducible refine (HC.out _).mono ?_); rintro e w1 ⟨rfl, hu1⟩))
  go_ret
  exact ⟨rfl, by (repeat' (first | (with_reducible exact Up.refl _) | (with_reducible assumption) | (with_reducible refine Up.alloc ?_ _) | (with_reducible refine Up.drew ?_) | (with_reducible refine Up.drewN ?_ _) | (with_reducible refine Up.setCell ?_ ?_ _) | (with_reducible refine Up.call ?_ (by with_reducible assumption)) | go_size))⟩

set_option maxRecDepth 8000 in
set_option maxHeartbeats 4000000 in
theorem rp_k4 (n : Int) (t : List UInt8) (ka : Option Addr) (kl kc : Nat) (la : Option Addr) (ll lc : Nat) (da : Option Addr) (dl dc : Nat) (ht : t.length ≤ 70000) (w : World) :
    Calls Tryd.prog 11 #[.agg #[.int .i64 4, .int .i64 n, .string ⟨t.toArray⟩, .slice ka kl kc, .slice la ll lc, .slice da dl dc]] w fun e w' => e = .returned (.string ⟨((47 :: enc t) : List UInt8).toArray⟩) ∧ Up w w' := by
  obtain ⟨L, hL⟩ : ∃ L, (47 :: enc t) = L := ⟨_, rfl⟩
  rw [hL]
  have HC : Hid (∀ W, Calls Tryd.prog 22 #[.string ⟨t.toArray⟩] W fun e w' => e = .returned (.string ⟨L.toArray⟩) ∧ Up W w') := Lib.hid (fun W => by rw [← hL]; exact rName_calls t ht W)
  clear hL
  go_enter Tryd.func11, Tryd.ntmps11
  go_wp2_with (go_at_call 22; ((with_reducible refine (HC.out _).mono ?_); rintro e w1 ⟨rfl, hu1⟩))
  go_ret
  exact ⟨rfl, by (repeat' (first | (with_reducible exact Up.refl _) | (with_reducible assumption) | (with_reducible refine Up.alloc ?_ _) | (with_reducible refine Up.drew ?_) | (with_reducible refine Up.drewN ?_ _) | (with_reducible refine Up.setCell ?_ ?_ _) | (with_reducible refine Up.call ?_ (by with_reducible assumption)) | go_size))⟩

set_option maxRecDepth 8000 in
set_option maxHeartbeats 4000000 in
theorem rp_k5 (n : Int) (t : List UInt8) (ka : Option Addr) (kl kc : Nat) (la : Option Addr) (ll lc : Nat) (da : Option Addr) (dl dc : Nat) (ht : t.length ≤ 70000) (w : World) :
    Calls Tryd.prog 11 #[.agg #[.int .i64 5, .int .i64 n, .string ⟨t.toArray⟩, .slice ka kl kc, .slice la ll lc, .slice da dl dc]] w fun e w' => e = .returned (.string ⟨((40 :: (txt t ++ [41])) : List UInt8).toArray⟩) ∧ Up w w' := by
  obtain ⟨L, hL⟩ : ∃ L, (40 :: (txt t ++ [41])) = L := ⟨_, rfl⟩
  rw [hL]
  have HC : Hid (∀ W, Calls Tryd.prog 23 #[.string ⟨t.toArray⟩] W fun e w' => e = .returned (.string ⟨L.toArray⟩) ∧ Up W w') := Lib.hid (fun W => by rw [← hL]; exact rText_calls t ht W)
  clear hL
  go_enter Tryd.func11, Tryd.ntmps11
  go_wp2_with (go_at_call 23; ((with_reducible refine (HC.out _).mono ?_); rintro e w1 ⟨rfl, hu1⟩))
  go_ret
  exact ⟨rfl, by (repeat' (first | (with_reducible exact Up.refl _) | (with_reducible assumption) | (with_reducible refine Up.alloc ?_ _) | (with_reducible refine Up.drew ?_) | (with_reducible refine Up.drewN ?_ _) | (with_reducible refine Up.setCell ?_ ?_ _) | (with_reducible refine Up.call ?_ (by with_reducible assumption)) | go_size))⟩

set_option maxRecDepth 8000 in
set_option maxHeartbeats 4000000 in
theorem rp_k8 (n : Int) (t : List UInt8) (ka : Option Addr) (kl kc : Nat) (la : Option Addr) (ll lc : Nat) (da : Option Addr) (dl dc : Nat) (h1 : -2147483648 ≤ n) (h2 : n ≤ 2147483647) (w : World) :
    Calls Tryd.prog 11 #[.agg #[.int .i64 8, .int .i64 n, .string ⟨t.toArray⟩, .slice ka kl kc, .slice la ll lc, .slice da dl dc]] w fun e w' => e = .returned (.string ⟨(intL n ++ [32, 48, 32, 82] : List UInt8).toArray⟩) ∧ Up w w' := by
  obtain ⟨L, hL⟩ : ∃ L, intL n = L := ⟨_, rfl⟩
  rw [hL]
  have HC : Hid (∀ W, Calls Tryd.prog 20 #[.int .i64 n] W fun e w' => e = .returned (.string ⟨L.toArray⟩) ∧ Up W w') := Lib.hid (fun W => by rw [← hL]; exact rdec_calls n h1 h2 W)
  have ll9 : L.length ≤ 110000 := by rw [← hL]; have := intL_len n h1 h2; omega
  have HST : Hid ((⟨L.toArray⟩ : ByteArray) ++ ⟨#[32, 48, 32, 82]⟩ = ⟨(L ++ [32, 48, 32, 82]).toArray⟩) := Lib.hid (str_app L [32, 48, 32, 82])
  clear hL
  go_enter Tryd.func11, Tryd.ntmps11
  go_wp2_with (go_at_call 20; ((with_reducible refine (HC.out _).mono ?_); rintro e w1 ⟨rfl, hu1⟩))
  go_ret
  exact ⟨by rw [← HST.out]; rfl, by (repeat' (first | (with_reducible exact Up.refl _) | (with_reducible assumption) | (with_reducible refine Up.alloc ?_ _) | (with_reducible refine Up.drew ?_) | (with_reducible refine Up.drewN ?_ _) | (with_reducible refine Up.setCell ?_ ?_ _) | (with_reducible refine Up.call ?_ (by with_reducible assumption)) | go_size))⟩

set_option maxRecDepth 8000 in
set_option maxHeartbeats 4000000 in
theorem rp_k6 (n : Int) (t : List UInt8) (ka : Option Addr) (kl kc : Nat) (la : Option Addr) (ll lc : Nat) (da : Option Addr) (dl dc : Nat) (l : List PO) (f : PO → List UInt8) (w0 : World) (hl : Sl 6 PO.cells w0 la ll lc l) (hrec : ∀ c ∈ l, RPC w0 (f c) c.cells.toArray) (hlim : (elsP f l l.length).length ≤ 140737480000000) (w : World) (hu : Up w0 w) :
    Calls Tryd.prog 11 #[.agg #[.int .i64 6, .int .i64 n, .string ⟨t.toArray⟩, .slice ka kl kc, .slice la ll lc, .slice da dl dc]] w fun e w' => e = .returned (.string ⟨((91 :: (elsP f l l.length ++ [93])) : List UInt8).toArray⟩) ∧ Up w w' := by
  have HL := Lib.hid hl
  have HLN := Lib.hid hl.2.2.1
  have HREC := Lib.hid hrec
  have HU0 := Lib.hid hu
  have l1 := hl.1
  have l2 := hl.2.1
  have HLIM := Lib.hid (show (elsP f l ll).length ≤ 140737480000000 by have := hl.2.2.1; rw [this] at hlim; exact hlim)
  clear hl hrec hu hlim
  go_enter Tryd.func11, Tryd.ntmps11
  go_wp2
  go_loopw [3, 4] (fun s3 s4 wr => ∃ (i : Nat) (S : ByteArray), i ≤ ll ∧ s3 = .string S ∧ s4 = .int .i64 i ∧ Hid (S = ⟨(91 :: elsP f l i).toArray⟩) ∧ Up (w.alloc (.cells #[.int .i64 6, .int .i64 n, .string ⟨t.toArray⟩, .slice ka kl kc, .slice la ll lc, .slice da dl dc] 26)) wr) (fun _ s4 _ => ll - (intOf s4).toNat)
  case atStart => exact ⟨0, _, Nat.zero_le _, rfl, rfl, Lib.hid rfl, Up.refl _⟩
  case round =>
    obtain ⟨i, S, hi, rfl, rfl, HS, hup⟩ := hrel
    have HUW : Hid (Up w wr) := Lib.hid ((Up.alloc (Up.refl w) _).call hup)
    have zr := hup.size
    simp at zr
    have y4 := ((BoxAt.new w #[.int .i64 6, .int .i64 n, .string ⟨t.toArray⟩, .slice ka kl kc, .slice la ll lc, .slice da dl dc]).up hup).cell 4 rfl
    have hss : S.size ≤ 140737480000001 := by
      rw [HS.out]
      show (91 :: elsP f l i).toArray.size ≤ _
      have h1 := flat_le (fun j => (if j = 0 then [] else [32]) ++ f (l.getD j dfl)) ll i hi
      have h2 : (elsP f l i).length ≤ (elsP f l ll).length := h1
      have := HLIM.out
      simp; omega
    by_cases hlt : i < ll
    · have dlt : decide (i < ll) = true := decide_eq_true hlt
      obtain ⟨gb, go, rfl, hgb, hgc⟩ := sl_some HL.out (by omega)
      obtain ⟨c, hc⟩ : ∃ c, l[i]? = some c := ⟨_, List.getElem?_eq_getElem (by have := HLN.out; omega)⟩
      have HU0W := Lib.hid (HU0.out.call HUW.out)
      have lgb : gb < wr.heap.size := Nat.lt_of_lt_of_le hgb HU0W.out.size
      have HPL := Lib.hid (els_le f l hlt)
      rw [getD_of hc] at HPL
      have HPS := Lib.hid (els_succ f l i)
      rw [getD_of hc] at HPS
      have HRC := Lib.hid (HREC.out c (List.mem_of_getElem? hc))
      have HC := Lib.hid hc
      obtain ⟨ck, cn, ct, cka, ckl, ckc, cks, cla, cll, clc, cl, cda, cdl, cdc, cd⟩ := c
      obtain ⟨F, hF⟩ : ∃ F, f (.mk ck cn ct cka ckl ckc cks cla cll clc cl cda cdl cdc cd) = F := ⟨_, rfl⟩
      rw [hF] at HPL HPS HRC
      have HRC2 : Hid (RPC w0 F #[.int .i64 ck, .int .i64 cn, .string ⟨ct.toArray⟩, .slice cka ckl ckc, .slice cla cll clc, .slice cda cdl cdc]) := HRC
      have fl9 : F.length ≤ 140737480000000 := by have h1 := HLIM.out; have h2 := HPL.out; omega
      obtain ⟨e0, e1, e2, e3, e4, e5⟩ := po_at hgb hgc HU0W.out HC.out
      clear hc hgc hgb hF HRC
      by_cases hi0 : i = 0
      · subst hi0
        simp only [Nat.zero_mul, Nat.add_zero] at e0 e1 e2 e3 e4 e5
        go_wp2_with (go_at_call 11; ((with_reducible refine Calls.mono (HRC2.out _ ?_) ?_); (focus (exact HU0.out.call HUW.out)); rintro e w2 ⟨rfl, hu2⟩))
        go_roundw
        case measure => simp [intOf]; omega
        case rel => exact ⟨0 + 1, _, by omega, rfl, by go_num, Lib.hid (by rw [HS.out, HPS.out]; exact (str_app (91 :: elsP f l 0) F).trans (by simp [elsP])), hup.call hu2⟩
      · rw [if_neg hi0] at HPS
        have hi1 : 0 < i := by omega
        have di1 : decide (0 < i) = true := decide_eq_true hi1
        clear hi0
        go_wp2_with (go_at_call 11; ((with_reducible refine Calls.mono (HRC2.out _ ?_) ?_); (focus (exact HU0.out.call HUW.out)); rintro e w2 ⟨rfl, hu2⟩))
        go_roundw
        case measure => simp [intOf]; omega
        case rel => exact ⟨i + 1, _, by omega, rfl, by go_num, Lib.hid (by rw [HS.out, HPS.out]; exact ((congrArg (· ++ (⟨F.toArray⟩ : ByteArray)) (str_app (91 :: elsP f l i) [32])).trans (str_app _ F)).trans (by simp)), hup.call hu2⟩
    · have dlt : decide (i < ll) = false := decide_eq_false hlt
      obtain rfl : ll = i := by omega
      go_wp2
      go_ret
      exact ⟨by rw [HLN.out]; exact congrArg (fun z => Ending.returned (Value.string z)) (by rw [HS.out]; exact (str_app (91 :: elsP f l ll) [93]).trans (by simp)), HUW.out⟩

set_option maxRecDepth 8000 in
set_option maxHeartbeats 4000000 in
theorem rp_k7 (n : Int) (t : List UInt8) (ka : Option Addr) (kl kc : Nat) (la : Option Addr) (ll lc : Nat) (da : Option Addr) (dl dc : Nat) (ks : List (List UInt8)) (l : List PO) (f : PO → List UInt8) (w0 : World) (hk : Sl 1 kcells w0 ka kl kc ks) (hl : Sl 6 PO.cells w0 la ll lc l) (hkl : kl = ll) (hkb : ∀ s ∈ ks, s.length ≤ 300) (hrec : ∀ c ∈ l, RPC w0 (f c) c.cells.toArray) (hlim : (parP f ks l ks.length).length ≤ 140737480000000) (w : World) (hu : Up w0 w) :
    Calls Tryd.prog 11 #[.agg #[.int .i64 7, .int .i64 n, .string ⟨t.toArray⟩, .slice ka kl kc, .slice la ll lc, .slice da dl dc]] w fun e w' => e = .returned (.string ⟨(dictP f ks l [] : List UInt8).toArray⟩) ∧ Up w w' := by
  subst hkl
  have HK := Lib.hid hk
  have HL := Lib.hid hl
  have HKN := Lib.hid hk.2.2.1
  have HLN := Lib.hid hl.2.2.1
  have HKB := Lib.hid hkb
  have HREC := Lib.hid hrec
  have HU0 := Lib.hid hu
  have k1 := hk.1
  have k2 := hk.2.1
  have l1 := hl.1
  have l2 := hl.2.1
  have HLIM := Lib.hid (show (parP f ks l kl).length ≤ 140737480000000 by have := hk.2.2.1; rw [this] at hlim; exact hlim)
  clear hk hl hrec hu hlim hkb
  go_enter Tryd.func11, Tryd.ntmps11
  go_wp2
  go_loopw [5, 6] (fun s5 s6 wr => ∃ (i : Nat) (S : ByteArray), i ≤ kl ∧ s5 = .string S ∧ s6 = .int .i64 i ∧ Hid (S = ⟨(60 :: 60 :: parP f ks l i).toArray⟩) ∧ Up (w.alloc (.cells #[.int .i64 7, .int .i64 n, .string ⟨t.toArray⟩, .slice ka kl kc, .slice la kl lc, .slice da dl dc] 26)) wr) (fun _ s6 _ => kl - (intOf s6).toNat)
  case atStart => exact ⟨0, _, Nat.zero_le _, rfl, rfl, Lib.hid rfl, Up.refl _⟩
  case round =>
    obtain ⟨i, S, hi, rfl, rfl, HS, hup⟩ := hrel
    have HUW : Hid (Up w wr) := Lib.hid ((Up.alloc (Up.refl w) _).call hup)
    have zr := hup.size
    simp at zr
    have HXB := Lib.hid ((BoxAt.new w #[.int .i64 7, .int .i64 n, .string ⟨t.toArray⟩, .slice ka kl kc, .slice la kl lc, .slice da dl dc]).up hup)
    have y3 := HXB.out.cell 3 rfl
    have y4 := HXB.out.cell 4 rfl
    have hss : S.size ≤ 140737480000002 := by
      rw [HS.out]
      show (60 :: 60 :: parP f ks l i).toArray.size ≤ _
      have h1 := flat_le (fun j => 32 :: 47 :: (enc (ks.getD j []) ++ 32 :: f (l.getD j dfl))) kl i hi
      have h2 : (parP f ks l i).length ≤ (parP f ks l kl).length := h1
      have := HLIM.out
      simp; omega
    by_cases hlt : i < kl
    · have dlt : decide (i < kl) = true := decide_eq_true hlt
      obtain ⟨kb, ko, rfl, hkb, hkc⟩ := sl_some HK.out (by omega)
      obtain ⟨gb, go, rfl, hgb, hgc⟩ := sl_some HL.out (by omega)
      obtain ⟨x, hx⟩ : ∃ x, ks[i]? = some x := ⟨_, List.getElem?_eq_getElem (by have := HKN.out; omega)⟩
      obtain ⟨c, hc⟩ : ∃ c, l[i]? = some c := ⟨_, List.getElem?_eq_getElem (by have := HLN.out; omega)⟩
      have HU0W := Lib.hid (HU0.out.call HUW.out)
      have q0 : wr.cell? ⟨kb, ko + i, none⟩ = some (.string ⟨x.toArray⟩) := (HU0W.out.cells.1 kb _ hkb).trans (by have := hkc i x 0 _ hx rfl; simpa using this)
      have lkb : kb < wr.heap.size := Nat.lt_of_lt_of_le hkb HU0W.out.size
      have lgb : gb < wr.heap.size := Nat.lt_of_lt_of_le hgb HU0W.out.size
      have hxl := HKB.out x (List.mem_of_getElem? hx)
      have HPL := Lib.hid (par_le f ks l hlt)
      rw [getD_of hx, getD_of hc] at HPL
      have HPS := Lib.hid (par_succ f ks l i)
      rw [getD_of hx, getD_of hc] at HPS
      have HRC := Lib.hid (HREC.out c (List.mem_of_getElem? hc))
      have HC := Lib.hid hc
      have HGB := Lib.hid hgb
      have HGC := Lib.hid hgc
      have HKBB := Lib.hid hkb
      have HKC := Lib.hid hkc
      have HX := Lib.hid hx
      obtain ⟨ck, cn, ct, cka, ckl, ckc, cks, cla, cll, clc, cl, cda, cdl, cdc, cd⟩ := c
      obtain ⟨F, hF⟩ : ∃ F, f (.mk ck cn ct cka ckl ckc cks cla cll clc cl cda cdl cdc cd) = F := ⟨_, rfl⟩
      rw [hF] at HPL HPS HRC
      have HRC2 : Hid (RPC w0 F #[.int .i64 ck, .int .i64 cn, .string ⟨ct.toArray⟩, .slice cka ckl ckc, .slice cla cll clc, .slice cda cdl cdc]) := HRC
      obtain ⟨N, hN⟩ : ∃ N, 47 :: enc x = N := ⟨_, rfl⟩
      have HNM : Hid (∀ W, Calls Tryd.prog 22 #[.string ⟨x.toArray⟩] W fun e w' => e = .returned (.string ⟨N.toArray⟩) ∧ Up W w') := Lib.hid (fun W => by rw [← hN]; exact rName_calls x (by omega) W)
      have HST : Hid (S ++ (⟨#[32]⟩ : ByteArray) ++ ⟨N.toArray⟩ ++ (⟨#[32]⟩ : ByteArray) ++ ⟨F.toArray⟩ = ⟨(60 :: 60 :: parP f ks l (i + 1)).toArray⟩) := Lib.hid (by
        rw [HS.out, HPS.out, ← hN]
        exact ((congrArg (fun z : ByteArray => z ++ ⟨(47 :: enc x).toArray⟩ ++ (⟨#[32]⟩ : ByteArray) ++ ⟨F.toArray⟩) (str_app _ [32])).trans ((congrArg (fun z : ByteArray => z ++ (⟨#[32]⟩ : ByteArray) ++ ⟨F.toArray⟩) (str_app _ (47 :: enc x))).trans ((congrArg (fun z : ByteArray => z ++ ⟨F.toArray⟩) (str_app _ [32])).trans (str_app _ F)))).trans (by simp))
      have HN9 := Lib.hid (show S.size + 1 + N.length + 1 + F.length ≤ 140737480000002 by
        have h1 := HLIM.out
        have h2 := HPL.out
        have h3 : S.size = 2 + (parP f ks l i).length := by rw [HS.out]; show (60 :: 60 :: parP f ks l i).toArray.size = _; simp; omega
        rw [← hN, List.length_cons]; omega)
      have n1 : ¬ (9223372036854775807 < S.size + 1) := by omega
      have n2 : ¬ (9223372036854775807 < S.size + 1 + N.length) := by have := HN9.out; omega
      have n3 : ¬ (9223372036854775807 < S.size + 1 + N.length + 1) := by have := HN9.out; omega
      have n4 : ¬ (9223372036854775807 < S.size + 1 + N.length + 1 + F.length) := by have := HN9.out; omega
      obtain ⟨e0, e1, e2, e3, e4, e5⟩ := po_at hgb hgc HU0W.out HC.out
      clear hc hgc hgb hF HRC hN hx hkb hkc
      go_wp2
      go_region_law (first
        | (go_simp; go_at_call 22; ((with_reducible refine (HNM.out _).mono ?_); rintro e w2 ⟨rfl, hu2⟩; have HU2 := Lib.hid (show Up wr w2 by (repeat' (first | (with_reducible exact Up.refl _) | (with_reducible assumption) | (with_reducible refine Up.alloc ?_ _) | (with_reducible refine Up.drew ?_) | (with_reducible refine Up.drewN ?_ _) | (with_reducible refine Up.setCell ?_ ?_ _) | (with_reducible refine Up.call ?_ (by with_reducible assumption)) | go_size))); have z2 := HU2.out.size; have u3 := (HXB.out.up HU2.out).cell 3 rfl; have u4 := (HXB.out.up HU2.out).cell 4 rfl; have u0 := (HU2.out.cells.1 kb _ lkb).trans q0; have lk2 : kb < w2.heap.size := Nat.lt_of_lt_of_le lkb HU2.out.size; have lg2 : gb < w2.heap.size := Nat.lt_of_lt_of_le lgb HU2.out.size; obtain ⟨f0, f1, f2, f3, f4, f5⟩ := po_at HGB.out HGC.out (HU0W.out.call HU2.out) HC.out))
        | (go_simp; go_at_call 11; ((with_reducible refine Calls.mono (HRC2.out _ ?_) ?_); (focus (exact HU0W.out.call (by (repeat' (first | (with_reducible exact Up.refl _) | (with_reducible assumption) | (with_reducible refine Up.alloc ?_ _) | (with_reducible refine Up.drew ?_) | (with_reducible refine Up.drewN ?_ _) | (with_reducible refine Up.setCell ?_ ?_ _) | (with_reducible refine Up.call ?_ (by with_reducible assumption)) | go_size))))); rintro e w3 ⟨rfl, hu3⟩; have HU3 := Lib.hid (show Up wr w3 by (repeat' (first | (with_reducible exact Up.refl _) | (with_reducible assumption) | (with_reducible refine Up.alloc ?_ _) | (with_reducible refine Up.drew ?_) | (with_reducible refine Up.drewN ?_ _) | (with_reducible refine Up.setCell ?_ ?_ _) | (with_reducible refine Up.call ?_ (by with_reducible assumption)) | go_size))); have z3 := HU3.out.size; have v3 := (HXB.out.up HU3.out).cell 3 rfl; have v4 := (HXB.out.up HU3.out).cell 4 rfl; have v0 := (HU3.out.cells.1 kb _ lkb).trans q0; have lk3 : kb < w3.heap.size := Nat.lt_of_lt_of_le lkb HU3.out.size; have lg3 : gb < w3.heap.size := Nat.lt_of_lt_of_le lgb HU3.out.size)))
      all_goals
        go_wp2
        go_roundw
      all_goals try (case measure => simp [intOf]; omega)
      all_goals exact ⟨i + 1, _, by omega, rfl, by go_num, Lib.hid HST.out, by (repeat' (first | (with_reducible exact Up.refl _) | (with_reducible assumption) | (with_reducible refine Up.alloc ?_ _) | (with_reducible refine Up.drew ?_) | (with_reducible refine Up.drewN ?_ _) | (with_reducible refine Up.setCell ?_ ?_ _) | (with_reducible refine Up.call ?_ (by with_reducible assumption)) | go_size))⟩
    · have dlt : decide (i < kl) = false := decide_eq_false hlt
      obtain rfl : kl = i := by omega
      have y0 := HXB.out.cell 0 rfl
      go_wp2
      go_ret
      exact ⟨congrArg (fun z => Ending.returned (Value.string z)) (by rw [HS.out]; exact (str_app (60 :: 60 :: parP f ks l kl) [32, 62, 62]).trans (by unfold dictP; rw [HKN.out]; simp)), HUW.out⟩

set_option maxRecDepth 8000 in
set_option maxHeartbeats 4000000 in
theorem rp_k9 (n : Int) (t : List UInt8) (ka : Option Addr) (kl kc : Nat) (la : Option Addr) (ll lc : Nat) (da : Option Addr) (dl dc : Nat) (ks : List (List UInt8)) (l : List PO) (d : List UInt8) (f : PO → List UInt8) (w0 : World) (hk : Sl 1 kcells w0 ka kl kc ks) (hl : Sl 6 PO.cells w0 la ll lc l) (hd : Sl 1 dcells w0 da dl dc d) (hdl : dl ≤ 5000) (hkl : kl = ll) (hkb : ∀ s ∈ ks, s.length ≤ 300) (hrec : ∀ c ∈ l, RPC w0 (f c) c.cells.toArray) (hlim : (parP f ks l ks.length).length ≤ 140737480000000) (w : World) (hu : Up w0 w) :
    Calls Tryd.prog 11 #[.agg #[.int .i64 9, .int .i64 n, .string ⟨t.toArray⟩, .slice ka kl kc, .slice la ll lc, .slice da dl dc]] w fun e w' => e = .returned (.string ⟨(dictP f ks l (lenP d.length) ++ ([10, 115, 116, 114, 101, 97, 109, 10] ++ (d ++ [10, 101, 110, 100, 115, 116, 114, 101, 97, 109])) : List UInt8).toArray⟩) ∧ Up w w' := by
  subst hkl
  have HK := Lib.hid hk
  have HL := Lib.hid hl
  have HKN := Lib.hid hk.2.2.1
  have HLN := Lib.hid hl.2.2.1
  have HKB := Lib.hid hkb
  have HREC := Lib.hid hrec
  have HU0 := Lib.hid hu
  have k1 := hk.1
  have k2 := hk.2.1
  have l1 := hl.1
  have l2 := hl.2.1
  have HLIM := Lib.hid (show (parP f ks l kl).length ≤ 140737480000000 by have := hk.2.2.1; rw [this] at hlim; exact hlim)
  have HD := Lib.hid hd
  have hdn := hd.2.2.1
  have d1 := hd.1
  have d2 := hd.2.1
  rw [hdn]
  obtain ⟨L, hL⟩ : ∃ L, intL (dl : Int) = L := ⟨_, rfl⟩
  have HDC : Hid (∀ W, Calls Tryd.prog 20 #[.int .i64 (dl : Int)] W fun e w' => e = .returned (.string ⟨L.toArray⟩) ∧ Up W w') := Lib.hid (fun W => by rw [← hL]; exact rdec_calls (dl : Int) (by omega) (by omega) W)
  have ll9 : L.length ≤ 101 := by rw [← hL]; exact intL_len (dl : Int) (by omega) (by omega)
  have HLP := Lib.hid (show lenP dl = [32, 47, 76, 101, 110, 103, 116, 104, 32] ++ L by rw [← hL]; rfl)
  have HDN := Lib.hid hdn
  clear hk hl hrec hu hlim hkb hd hL hdn
  go_enter Tryd.func11, Tryd.ntmps11
  go_wp2
  go_loopw [5, 6] (fun s5 s6 wr => ∃ (i : Nat) (S : ByteArray), i ≤ kl ∧ s5 = .string S ∧ s6 = .int .i64 i ∧ Hid (S = ⟨(60 :: 60 :: parP f ks l i).toArray⟩) ∧ Up (w.alloc (.cells #[.int .i64 9, .int .i64 n, .string ⟨t.toArray⟩, .slice ka kl kc, .slice la kl lc, .slice da dl dc] 26)) wr) (fun _ s6 _ => kl - (intOf s6).toNat)
  case atStart => exact ⟨0, _, Nat.zero_le _, rfl, rfl, Lib.hid rfl, Up.refl _⟩
  case round =>
    obtain ⟨i, S, hi, rfl, rfl, HS, hup⟩ := hrel
    have HUW : Hid (Up w wr) := Lib.hid ((Up.alloc (Up.refl w) _).call hup)
    have zr := hup.size
    simp at zr
    have HXB := Lib.hid ((BoxAt.new w #[.int .i64 9, .int .i64 n, .string ⟨t.toArray⟩, .slice ka kl kc, .slice la kl lc, .slice da dl dc]).up hup)
    have y3 := HXB.out.cell 3 rfl
    have y4 := HXB.out.cell 4 rfl
    have hss : S.size ≤ 140737480000002 := by
      rw [HS.out]
      show (60 :: 60 :: parP f ks l i).toArray.size ≤ _
      have h1 := flat_le (fun j => 32 :: 47 :: (enc (ks.getD j []) ++ 32 :: f (l.getD j dfl))) kl i hi
      have h2 : (parP f ks l i).length ≤ (parP f ks l kl).length := h1
      have := HLIM.out
      simp; omega
    by_cases hlt : i < kl
    · have dlt : decide (i < kl) = true := decide_eq_true hlt
      obtain ⟨kb, ko, rfl, hkb, hkc⟩ := sl_some HK.out (by omega)
      obtain ⟨gb, go, rfl, hgb, hgc⟩ := sl_some HL.out (by omega)
      obtain ⟨x, hx⟩ : ∃ x, ks[i]? = some x := ⟨_, List.getElem?_eq_getElem (by have := HKN.out; omega)⟩
      obtain ⟨c, hc⟩ : ∃ c, l[i]? = some c := ⟨_, List.getElem?_eq_getElem (by have := HLN.out; omega)⟩
      have HU0W := Lib.hid (HU0.out.call HUW.out)
      have q0 : wr.cell? ⟨kb, ko + i, none⟩ = some (.string ⟨x.toArray⟩) := (HU0W.out.cells.1 kb _ hkb).trans (by have := hkc i x 0 _ hx rfl; simpa using this)
      have lkb : kb < wr.heap.size := Nat.lt_of_lt_of_le hkb HU0W.out.size
      have lgb : gb < wr.heap.size := Nat.lt_of_lt_of_le hgb HU0W.out.size
      have hxl := HKB.out x (List.mem_of_getElem? hx)
      have HPL := Lib.hid (par_le f ks l hlt)
      rw [getD_of hx, getD_of hc] at HPL
      have HPS := Lib.hid (par_succ f ks l i)
      rw [getD_of hx, getD_of hc] at HPS
      have HRC := Lib.hid (HREC.out c (List.mem_of_getElem? hc))
      have HC := Lib.hid hc
      have HGB := Lib.hid hgb
      have HGC := Lib.hid hgc
      have HKBB := Lib.hid hkb
      have HKC := Lib.hid hkc
      have HX := Lib.hid hx
      obtain ⟨ck, cn, ct, cka, ckl, ckc, cks, cla, cll, clc, cl, cda, cdl, cdc, cd⟩ := c
      obtain ⟨F, hF⟩ : ∃ F, f (.mk ck cn ct cka ckl ckc cks cla cll clc cl cda cdl cdc cd) = F := ⟨_, rfl⟩
      rw [hF] at HPL HPS HRC
      have HRC2 : Hid (RPC w0 F #[.int .i64 ck, .int .i64 cn, .string ⟨ct.toArray⟩, .slice cka ckl ckc, .slice cla cll clc, .slice cda cdl cdc]) := HRC
      obtain ⟨N, hN⟩ : ∃ N, 47 :: enc x = N := ⟨_, rfl⟩
      have HNM : Hid (∀ W, Calls Tryd.prog 22 #[.string ⟨x.toArray⟩] W fun e w' => e = .returned (.string ⟨N.toArray⟩) ∧ Up W w') := Lib.hid (fun W => by rw [← hN]; exact rName_calls x (by omega) W)
      have HST : Hid (S ++ (⟨#[32]⟩ : ByteArray) ++ ⟨N.toArray⟩ ++ (⟨#[32]⟩ : ByteArray) ++ ⟨F.toArray⟩ = ⟨(60 :: 60 :: parP f ks l (i + 1)).toArray⟩) := Lib.hid (by
        rw [HS.out, HPS.out, ← hN]
        exact ((congrArg (fun z : ByteArray => z ++ ⟨(47 :: enc x).toArray⟩ ++ (⟨#[32]⟩ : ByteArray) ++ ⟨F.toArray⟩) (str_app _ [32])).trans ((congrArg (fun z : ByteArray => z ++ (⟨#[32]⟩ : ByteArray) ++ ⟨F.toArray⟩) (str_app _ (47 :: enc x))).trans ((congrArg (fun z : ByteArray => z ++ ⟨F.toArray⟩) (str_app _ [32])).trans (str_app _ F)))).trans (by simp))
      have HN9 := Lib.hid (show S.size + 1 + N.length + 1 + F.length ≤ 140737480000002 by
        have h1 := HLIM.out
        have h2 := HPL.out
        have h3 : S.size = 2 + (parP f ks l i).length := by rw [HS.out]; show (60 :: 60 :: parP f ks l i).toArray.size = _; simp; omega
        rw [← hN, List.length_cons]; omega)
      have n1 : ¬ (9223372036854775807 < S.size + 1) := by omega
      have n2 : ¬ (9223372036854775807 < S.size + 1 + N.length) := by have := HN9.out; omega
      have n3 : ¬ (9223372036854775807 < S.size + 1 + N.length + 1) := by have := HN9.out; omega
      have n4 : ¬ (9223372036854775807 < S.size + 1 + N.length + 1 + F.length) := by have := HN9.out; omega
      obtain ⟨e0, e1, e2, e3, e4, e5⟩ := po_at hgb hgc HU0W.out HC.out
      clear hc hgc hgb hF HRC hN hx hkb hkc
      go_wp2
      go_region_law (first
        | (go_simp; go_at_call 22; ((with_reducible refine (HNM.out _).mono ?_); rintro e w2 ⟨rfl, hu2⟩; have HU2 := Lib.hid (show Up wr w2 by (repeat' (first | (with_reducible exact Up.refl _) | (with_reducible assumption) | (with_reducible refine Up.alloc ?_ _) | (with_reducible refine Up.drew ?_) | (with_reducible refine Up.drewN ?_ _) | (with_reducible refine Up.setCell ?_ ?_ _) | (with_reducible refine Up.call ?_ (by with_reducible assumption)) | go_size))); have z2 := HU2.out.size; have u3 := (HXB.out.up HU2.out).cell 3 rfl; have u4 := (HXB.out.up HU2.out).cell 4 rfl; have u0 := (HU2.out.cells.1 kb _ lkb).trans q0; have lk2 : kb < w2.heap.size := Nat.lt_of_lt_of_le lkb HU2.out.size; have lg2 : gb < w2.heap.size := Nat.lt_of_lt_of_le lgb HU2.out.size; obtain ⟨f0, f1, f2, f3, f4, f5⟩ := po_at HGB.out HGC.out (HU0W.out.call HU2.out) HC.out))
        | (go_simp; go_at_call 11; ((with_reducible refine Calls.mono (HRC2.out _ ?_) ?_); (focus (exact HU0W.out.call (by (repeat' (first | (with_reducible exact Up.refl _) | (with_reducible assumption) | (with_reducible refine Up.alloc ?_ _) | (with_reducible refine Up.drew ?_) | (with_reducible refine Up.drewN ?_ _) | (with_reducible refine Up.setCell ?_ ?_ _) | (with_reducible refine Up.call ?_ (by with_reducible assumption)) | go_size))))); rintro e w3 ⟨rfl, hu3⟩; have HU3 := Lib.hid (show Up wr w3 by (repeat' (first | (with_reducible exact Up.refl _) | (with_reducible assumption) | (with_reducible refine Up.alloc ?_ _) | (with_reducible refine Up.drew ?_) | (with_reducible refine Up.drewN ?_ _) | (with_reducible refine Up.setCell ?_ ?_ _) | (with_reducible refine Up.call ?_ (by with_reducible assumption)) | go_size))); have z3 := HU3.out.size; have v3 := (HXB.out.up HU3.out).cell 3 rfl; have v4 := (HXB.out.up HU3.out).cell 4 rfl; have v0 := (HU3.out.cells.1 kb _ lkb).trans q0; have lk3 : kb < w3.heap.size := Nat.lt_of_lt_of_le lkb HU3.out.size; have lg3 : gb < w3.heap.size := Nat.lt_of_lt_of_le lgb HU3.out.size)))
      all_goals
        go_wp2
        go_roundw
      all_goals try (case measure => simp [intOf]; omega)
      all_goals exact ⟨i + 1, _, by omega, rfl, by go_num, Lib.hid HST.out, by (repeat' (first | (with_reducible exact Up.refl _) | (with_reducible assumption) | (with_reducible refine Up.alloc ?_ _) | (with_reducible refine Up.drew ?_) | (with_reducible refine Up.drewN ?_ _) | (with_reducible refine Up.setCell ?_ ?_ _) | (with_reducible refine Up.call ?_ (by with_reducible assumption)) | go_size))⟩
    · have dlt : decide (i < kl) = false := decide_eq_false hlt
      obtain rfl : kl = i := by omega
      have y0 := HXB.out.cell 0 rfl
      have y5 := HXB.out.cell 5 rfl
      have HU0W := Lib.hid (HU0.out.call HUW.out)
      have cv : (convert 24 9 (.slice da dl dc)).run Tryd.prog wr.drew = .ok (.string ⟨d.toArray⟩) wr.drew := data_conv HD.out (Up.drew HU0W.out)
      have dn9 : d.length ≤ 5000 := by have := HDN.out; omega
      have n1 : ¬ (9223372036854775807 < S.size + 9) := by omega
      have n2 : ¬ (9223372036854775807 < S.size + 9 + L.length) := by omega
      have n3 : ¬ (9223372036854775807 < S.size + 9 + L.length + 11) := by omega
      have n4 : ¬ (9223372036854775807 < S.size + 9 + L.length + 11 + d.length) := by omega
      have n5 : ¬ (9223372036854775807 < S.size + 9 + L.length + 11 + d.length + 10) := by omega
      have HST : Hid (S ++ (⟨#[32, 47, 76, 101, 110, 103, 116, 104, 32]⟩ : ByteArray) ++ ⟨L.toArray⟩ ++ (⟨#[32, 62, 62, 10, 115, 116, 114, 101, 97, 109, 10]⟩ : ByteArray) ++ ⟨d.toArray⟩ ++ (⟨#[10, 101, 110, 100, 115, 116, 114, 101, 97, 109]⟩ : ByteArray) = ⟨(dictP f ks l (lenP dl) ++ ([10, 115, 116, 114, 101, 97, 109, 10] ++ (d ++ [10, 101, 110, 100, 115, 116, 114, 101, 97, 109]))).toArray⟩) := Lib.hid (by
        rw [HS.out]
        exact ((congrArg (fun z : ByteArray => z ++ ⟨L.toArray⟩ ++ (⟨#[32, 62, 62, 10, 115, 116, 114, 101, 97, 109, 10]⟩ : ByteArray) ++ ⟨d.toArray⟩ ++ (⟨#[10, 101, 110, 100, 115, 116, 114, 101, 97, 109]⟩ : ByteArray)) (str_app _ [32, 47, 76, 101, 110, 103, 116, 104, 32])).trans ((congrArg (fun z : ByteArray => z ++ (⟨#[32, 62, 62, 10, 115, 116, 114, 101, 97, 109, 10]⟩ : ByteArray) ++ ⟨d.toArray⟩ ++ (⟨#[10, 101, 110, 100, 115, 116, 114, 101, 97, 109]⟩ : ByteArray)) (str_app _ L)).trans ((congrArg (fun z : ByteArray => z ++ ⟨d.toArray⟩ ++ (⟨#[10, 101, 110, 100, 115, 116, 114, 101, 97, 109]⟩ : ByteArray)) (str_app _ [32, 62, 62, 10, 115, 116, 114, 101, 97, 109, 10])).trans ((congrArg (fun z : ByteArray => z ++ (⟨#[10, 101, 110, 100, 115, 116, 114, 101, 97, 109]⟩ : ByteArray)) (str_app _ d)).trans (str_app _ [10, 101, 110, 100, 115, 116, 114, 101, 97, 109]))))).trans (by unfold dictP; rw [HKN.out, HLP.out]; simp))
      go_wp2
      go_region_law (go_simp; go_at_call 20; ((with_reducible refine (HDC.out _).mono ?_); rintro e w4 ⟨rfl, hu4⟩; have HU4 := Lib.hid (show Up wr w4 by (repeat' (first | (with_reducible exact Up.refl _) | (with_reducible assumption) | (with_reducible refine Up.alloc ?_ _) | (with_reducible refine Up.drew ?_) | (with_reducible refine Up.drewN ?_ _) | (with_reducible refine Up.setCell ?_ ?_ _) | (with_reducible refine Up.call ?_ (by with_reducible assumption)) | go_size))); have z4 := HU4.out.size; have u5 := (HXB.out.up HU4.out).cell 5 rfl; have lx4 := (HXB.out.up HU4.out).lt; have cv4 : (convert 24 9 (.slice da dl dc)).run Tryd.prog w4 = .ok (.string ⟨d.toArray⟩) w4 := data_conv HD.out (HU0W.out.call HU4.out)))
      all_goals
        go_wp2
        go_ret
        exact ⟨congrArg (fun z => Ending.returned (Value.string z)) HST.out, HUW.out.call HU4.out⟩

end Go.Proofs.YtaafelkdhahaoaaDoor.Pob
