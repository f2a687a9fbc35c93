/- Package pobj: pairs of a dictionary. Its condition: how its objects are written; lengths. -/
import Derived.Test.YtaafelkdhahaoaaDoorPobQ
namespace Go.Proofs.YtaafelkdhahaoaaDoor.Pob
open Go.ChangeShapes Go.WideShapes Go.RowKit Go.Shelf
set_option linter.unusedVariables false
set_option linter.unusedSimpArgs false

/-- an object is written so, in any world behind w0 -/
abbrev WrC (w0 : World) (f : List UInt8) (cs : Array Value) : Prop := ∀ (B b : Nat) (bs : List UInt8) (w : World), w0.heap.size ≤ B → Up w0 w → B ≤ w.heap.size → IsBuf B b (Lib.byteCells bs) w → bs.length + f.length ≤ 140737480000000 →
  Calls Tryd.prog 16 #[.pointer (some ⟨b, 0, none⟩), .agg cs] w fun e w' => e = .returned (.tuple #[]) ∧ IsBuf B b (Lib.byteCells (bs ++ f)) w' ∧ Below B w w' ∧ OK b w w'
theorem getD_of {α : Type} {l : List α} {i : Nat} {x d : α} (h : l[i]? = some x) : l.getD i d = x := by rw [List.getD_eq_getElem?_getD, h]; rfl

set_option maxRecDepth 8000 in
set_option maxHeartbeats 4000000 in
theorem pairs_calls (f : PO → List UInt8) (k n : Int) (t : List UInt8) (ka : Option Addr) (kl kc : Nat) (ks : List (List UInt8)) (la : Option Addr) (ll lc : Nat) (l : List PO) (da : Option Addr) (dl dc : Nat) (more : List UInt8) (hmo : more.length ≤ 1000) (w0 : World) (hk : Sl 1 kcells w0 ka kl kc ks) (hl : Sl 6 PO.cells w0 la ll lc l) (hkl : kl = ll) (hkb : ∀ s ∈ ks, s.length ≤ 300) (hrec : ∀ c ∈ l, WrC w0 (f c) c.cells.toArray)
    (B b : Nat) (bs : List UInt8) (w : World) (h0 : w0.heap.size ≤ B) (hu : Up w0 w) (hBw : B ≤ w.heap.size) (h : IsBuf B b (Lib.byteCells bs) w) (hlim : bs.length + (dictP f ks l more).length ≤ 140737480000000) :
    Calls Tryd.prog 34 #[.pointer (some ⟨b, 0, none⟩), .agg #[.int .i64 k, .int .i64 n, .string ⟨t.toArray⟩, .slice ka kl kc, .slice la ll lc, .slice da dl dc], .string ⟨more.toArray⟩] w fun e w' => e = .returned (.tuple #[]) ∧ IsBuf B b (Lib.byteCells (bs ++ dictP f ks l more)) w' ∧ Below B w w' ∧ OK b w w' := by
  subst hkl
  have hb := Lib.IsBuffer.lt h
  have H := Lib.hid h
  have HK := Lib.hid hk
  have HL := Lib.hid hl
  have HKN := Lib.hid hk.2.2.1
  have HLN := Lib.hid hl.2.2.1
  have HKB := Lib.hid hkb
  have HREC := Lib.hid hrec
  have HU0 := Lib.hid hu
  have k1 := hk.1
  have k2 := hk.2.1
  have l1 := hl.1
  have l2 := hl.2.1
  have HLIM := Lib.hid (show bs.length + 2 + (parP f ks l kl).length + more.length + 3 ≤ 140737480000000 by
    have := hk.2.2.1
    unfold dictP at hlim
    rw [this] at hlim
    simp only [List.length_cons, List.length_append, List.length_nil] at hlim
    omega)
  have HMORE : Hid ((⟨more.toArray⟩ : ByteArray) ++ ⟨#[32, 62, 62]⟩ = ⟨(more ++ [32, 62, 62]).toArray⟩) := Lib.hid (str_app more [32, 62, 62])
  obtain ⟨cs, hcs⟩ : ∃ cs : Array Value, cs = #[.int .i64 k, .int .i64 n, .string ⟨t.toArray⟩, .slice ka kl kc, .slice la kl lc, .slice da dl dc] := ⟨_, rfl⟩
  have HCS := Lib.hid hcs
  have hlen0 : bs.length ≤ 140737480000000 := by omega
  clear h hk hl hkb hrec hu hlim hcs
  go_enter Tryd.func34, Tryd.ntmps34
  go_wp2_with (go_at_call 27; ((with_reducible refine (wStr B b bs [60, 60] _ (Lib.IsBuffer.old H.out (by (repeat' (first | (with_reducible exact Up.refl _) | (with_reducible assumption) | (with_reducible refine Up.alloc ?_ _) | (with_reducible refine Up.drew ?_) | (with_reducible refine Up.drewN ?_ _) | (with_reducible refine Up.setCell ?_ ?_ _) | (with_reducible refine Up.call ?_ (by with_reducible assumption)) | go_size)))) (by simp; omega) (by simp; omega)).mono ?_); rintro e w1 ⟨rfl, hI1, hb1, ho1⟩; have HI1 := Lib.hid hI1; have HB1 := Lib.hid (Below.trans ((show Up w _ by (repeat' (first | (with_reducible exact Up.refl _) | (with_reducible assumption) | (with_reducible refine Up.alloc ?_ _) | (with_reducible refine Up.drew ?_) | (with_reducible refine Up.drewN ?_ _) | (with_reducible refine Up.setCell ?_ ?_ _) | (with_reducible refine Up.call ?_ (by with_reducible assumption)) | go_size))).mono hBw) hb1); have HO1 := Lib.hid (((OK.refl b w).upc (show Up w _ by (repeat' (first | (with_reducible exact Up.refl _) | (with_reducible assumption) | (with_reducible refine Up.alloc ?_ _) | (with_reducible refine Up.drew ?_) | (with_reducible refine Up.drewN ?_ _) | (with_reducible refine Up.setCell ?_ ?_ _) | (with_reducible refine Up.call ?_ (by with_reducible assumption)) | go_size)))).tr ho1); have HX1 := Lib.hid (BoxAt.kept (BoxAt.new w #[.int .i64 k, .int .i64 n, .string ⟨t.toArray⟩, .slice ka kl kc, .slice la kl lc, .slice da dl dc]) ho1 (by omega)); have x3 := HX1.out.cell 3 rfl; have lx := HX1.out.lt; clear hI1 hb1 ho1))
  go_loopw [13] (fun s13 wr => ∃ i : Nat, i ≤ kl ∧ s13 = .int .i64 i ∧ Hid (IsBuf B b (Lib.byteCells (bs ++ 60 :: 60 :: parP f ks l i)) wr ∧ Below B w wr ∧ OK b w wr ∧ BoxAt wr w.heap.size #[.int .i64 k, .int .i64 n, .string ⟨t.toArray⟩, .slice ka kl kc, .slice la kl lc, .slice da dl dc])) (fun s13 _ => kl - (intOf s13).toNat)
  case atStart => exact ⟨0, Nat.zero_le _, rfl, Lib.hid ⟨by have := HI1.out; exact this, HB1.out, HO1.out, HX1.out⟩⟩
  case round =>
    obtain ⟨i, hi, rfl, HR⟩ := hrel
    clear x3 lx
    have y3 := HR.out.2.2.2.cell 3 rfl
    have y4 := HR.out.2.2.2.cell 4 rfl
    have ly := HR.out.2.2.2.lt
    have HUR := Lib.hid (up_below HU0.out HR.out.2.1 h0)
    have zr := HR.out.2.1.size
    by_cases hlt : i < kl
    · have dlt : decide (i < kl) = true := decide_eq_true hlt
      obtain ⟨kb, ko, rfl, hkb, hkc⟩ := sl_some HK.out (by omega)
      obtain ⟨gb, go, rfl, hgb, hgc⟩ := sl_some HL.out (by omega)
      obtain ⟨x, hx⟩ : ∃ x, ks[i]? = some x := ⟨_, List.getElem?_eq_getElem (by have := HKN.out; omega)⟩
      obtain ⟨c, hc⟩ : ∃ c, l[i]? = some c := ⟨_, List.getElem?_eq_getElem (by have := HLN.out; omega)⟩
      have q0 : wr.cell? ⟨kb, ko + i, none⟩ = some (.string ⟨x.toArray⟩) := (HUR.out.cells.1 kb _ hkb).trans (by have := hkc i x 0 _ hx rfl; simpa using this)
      have lkb : kb < wr.heap.size := Nat.lt_of_lt_of_le hkb HUR.out.size
      have hxl := HKB.out x (List.mem_of_getElem? hx)
      have HPL := Lib.hid (par_le f ks l hlt)
      rw [getD_of hx, getD_of hc] at HPL
      have HPS := Lib.hid (par_succ f ks l i)
      rw [getD_of hx, getD_of hc] at HPS
      have HRC := Lib.hid (HREC.out c (List.mem_of_getElem? hc))
      have HC := Lib.hid hc
      have HGC := Lib.hid hgc
      have HGB := Lib.hid hgb
      obtain ⟨ck, cn, ct, cka, ckl, ckc, cks, cla, cll, clc, cl, cda, cdl, cdc, cd⟩ := c
      obtain ⟨F, hF⟩ : ∃ F, f (.mk ck cn ct cka ckl ckc cks cla cll clc cl cda cdl cdc cd) = F := ⟨_, rfl⟩
      rw [hF] at HPL HPS HRC
      have HRC2 : Hid (WrC w0 F #[.int .i64 ck, .int .i64 cn, .string ⟨ct.toArray⟩, .slice cka ckl ckc, .slice cla cll clc, .slice cda cdl cdc]) := HRC
      have HL5 := Lib.hid (show bs.length + 2 + (parP f ks l i).length + (enc x).length + F.length + 3 ≤ 140737480000000 by have h1 := HLIM.out; have h2 := HPL.out; omega)
      clear hx hc hkc hgc hgb hF HRC
      go_wp2_with (first
        | (go_at_call 33; ((with_reducible refine (wByte B b (bs ++ 60 :: 60 :: parP f ks l i) 32 32 rfl _ HR.out.1 (by omega) (by have := HL5.out; simp only [List.length_append, List.length_cons]; omega)).mono ?_); rintro e w2 ⟨rfl, hI2, hb2, ho2⟩; have HI2 := Lib.hid hI2; have HB2 := Lib.hid (HR.out.2.1.trans hb2); have HO2 := Lib.hid (HR.out.2.2.1.tr ho2); have HX2 := Lib.hid (HR.out.2.2.2.kept ho2 (by omega)); have z2 := HB2.out.size; clear hI2 hb2 ho2))
        | (go_at_call 31; ((with_reducible refine (name_calls B b (bs ++ 60 :: 60 :: parP f ks l i ++ [32]) x _ HI2.out (by omega) (by have := HL5.out; simp only [List.length_append, List.length_cons, List.length_nil]; omega)).mono ?_); rintro e w3 ⟨rfl, hI3, hb3, ho3⟩; have HI3 := Lib.hid hI3; have HB3 := Lib.hid (HB2.out.trans hb3); have HO3 := Lib.hid (HO2.out.tr (OK.of ho3)); have HX3 := Lib.hid (HX2.out.kept (OK.of ho3) (by omega)); have z3 := HB3.out.size; clear hI3 hb3 ho3))
        | (go_at_call 33; ((with_reducible refine (wByte B b (bs ++ 60 :: 60 :: parP f ks l i ++ [32] ++ 47 :: enc x) 32 32 rfl _ HI3.out (by omega) (by have := HL5.out; simp only [List.length_append, List.length_cons, List.length_nil]; omega)).mono ?_); rintro e w4 ⟨rfl, hI4, hb4, ho4⟩; have HI4 := Lib.hid hI4; have HB4 := Lib.hid (HB3.out.trans hb4); have HO4 := Lib.hid (HO3.out.tr ho4); have HX4 := Lib.hid (HX3.out.kept ho4 (by omega)); have z4 := HB4.out.size; have HU4 := Lib.hid (up_below HU0.out HB4.out h0); have v4 := HX4.out.cell 4 rfl; have lv := HX4.out.lt; have lg4 := Nat.lt_of_lt_of_le HGB.out HU4.out.size; obtain ⟨e0, e1, e2, e3, e4, e5⟩ := po_at HGB.out HGC.out HU4.out HC.out; clear hI4 hb4 ho4))
        | (go_at_call 16; ((with_reducible refine (HRC2.out B b (bs ++ 60 :: 60 :: parP f ks l i ++ [32] ++ 47 :: enc x ++ [32]) _ h0 HU4.out (by omega) HI4.out (by have := HL5.out; simp only [List.length_append, List.length_cons, List.length_nil]; omega)).mono ?_); rintro e w5 ⟨rfl, hI5, hb5, ho5⟩; have HI5 := Lib.hid hI5; have HB5 := Lib.hid (HB4.out.trans hb5); have HO5 := Lib.hid (HO4.out.tr ho5); have HX5 := Lib.hid (HX4.out.kept ho5 (by omega)); clear hI5 hb5 ho5)))
      go_roundw
      case measure => simp [intOf]; omega
      case rel =>
        refine ⟨i + 1, by omega, by go_num, Lib.hid ⟨?_, HB5.out, HO5.out, HX5.out⟩⟩
        have e9 : bs ++ 60 :: 60 :: parP f ks l (i + 1) = bs ++ 60 :: 60 :: parP f ks l i ++ [32] ++ 47 :: enc x ++ [32] ++ F := by rw [HPS.out]; simp
        rw [e9]; exact HI5.out
    · have dlt : decide (i < kl) = false := decide_eq_false hlt
      obtain rfl : kl = i := by omega
      go_wp2_with (go_at_call 27; ((with_reducible rw [HMORE.out]); (with_reducible refine (wStr B b (bs ++ 60 :: 60 :: parP f ks l kl) (more ++ [32, 62, 62]) _ HR.out.1 (by omega) (by have := HLIM.out; simp only [List.length_append, List.length_cons, List.length_nil]; omega)).mono ?_); rintro e w2 ⟨rfl, hI2, hb2, ho2⟩; have HI2 := Lib.hid hI2; have HB2 := Lib.hid (HR.out.2.1.trans hb2); have HO2 := Lib.hid (HR.out.2.2.1.tr ho2); clear hI2 hb2 ho2))
      go_returns
      refine ⟨rfl, ?_, HB2.out, HO2.out⟩
      have e9 : bs ++ dictP f ks l more = bs ++ 60 :: 60 :: parP f ks l kl ++ (more ++ [32, 62, 62]) := by unfold dictP; rw [HKN.out]; simp
      rw [e9]; exact HI2.out

end Go.Proofs.YtaafelkdhahaoaaDoor.Pob
