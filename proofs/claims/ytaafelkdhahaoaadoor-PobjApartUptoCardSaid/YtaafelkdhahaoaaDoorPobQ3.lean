/- Package pobj: write of any object. Its condition: a sound object that is not too large. -/
import Derived.Test.YtaafelkdhahaoaaDoorPobQ2
namespace Go.Proofs.YtaafelkdhahaoaaDoor.Pob
open Go.ChangeShapes Go.WideShapes Go.RowKit Go.Shelf
set_option linter.unusedVariables false
set_option linter.unusedSimpArgs false

set_option maxRecDepth 8000 in
set_option maxHeartbeats 4000000 in
theorem write_k0 (n : Int) (t : List UInt8) (ka : Option Addr) (kl kc : Nat) (la : Option Addr) (ll lc : Nat) (da : Option Addr) (dl dc : Nat)  (B b : Nat) (bs : List UInt8) (w : World) (hBw : B ≤ w.heap.size) (h : IsBuf B b (Lib.byteCells bs) w) (hlim : bs.length + 200000 ≤ 140737488355328) :
    Calls Tryd.prog 16 #[.pointer (some ⟨b, 0, none⟩), .agg #[.int .i64 0, .int .i64 n, .string ⟨t.toArray⟩, .slice ka kl kc, .slice la ll lc, .slice da dl dc]] w fun e w' => e = .returned (.tuple #[]) ∧ IsBuf B b (Lib.byteCells (bs ++ [110, 117, 108, 108])) w' ∧ Below B w w' ∧ OK b w w' := by
  have hb := Lib.IsBuffer.lt h
  have H := Lib.hid h
  clear h
  go_enter Tryd.func16, Tryd.ntmps16
  go_wp2_with (go_at_call 27; ((with_reducible refine (wStr B b bs [110, 117, 108, 108] _ (Lib.IsBuffer.old H.out (by (repeat' (first | (with_reducible exact Up.refl _) | (with_reducible assumption) | (with_reducible refine Up.alloc ?_ _) | (with_reducible refine Up.drew ?_) | (with_reducible refine Up.drewN ?_ _) | (with_reducible refine Up.setCell ?_ ?_ _) | (with_reducible refine Up.call ?_ (by with_reducible assumption)) | go_size)))) (by first | (simp; omega) | omega) (by first | (simp; omega) | omega)).mono ?_); rintro e w9 ⟨rfl, hI9, hb9, ho9⟩; have HI9 := Lib.hid hI9; have HB9 := Lib.hid (Below.trans ((show Up w _ by (repeat' (first | (with_reducible exact Up.refl _) | (with_reducible assumption) | (with_reducible refine Up.alloc ?_ _) | (with_reducible refine Up.drew ?_) | (with_reducible refine Up.drewN ?_ _) | (with_reducible refine Up.setCell ?_ ?_ _) | (with_reducible refine Up.call ?_ (by with_reducible assumption)) | go_size))).mono hBw) hb9); have HO9 := Lib.hid (((OK.refl b w).upc (show Up w _ by (repeat' (first | (with_reducible exact Up.refl _) | (with_reducible assumption) | (with_reducible refine Up.alloc ?_ _) | (with_reducible refine Up.drew ?_) | (with_reducible refine Up.drewN ?_ _) | (with_reducible refine Up.setCell ?_ ?_ _) | (with_reducible refine Up.call ?_ (by with_reducible assumption)) | go_size)))).tr ho9); clear hI9 hb9 ho9))
  go_returns
  exact ⟨rfl, HI9.out, HB9.out, HO9.out⟩

set_option maxRecDepth 8000 in
set_option maxHeartbeats 4000000 in
theorem write_k1t (n : Int) (t : List UInt8) (ka : Option Addr) (kl kc : Nat) (la : Option Addr) (ll lc : Nat) (da : Option Addr) (dl dc : Nat) (hn : n = 1) (B b : Nat) (bs : List UInt8) (w : World) (hBw : B ≤ w.heap.size) (h : IsBuf B b (Lib.byteCells bs) w) (hlim : bs.length + 200000 ≤ 140737488355328) :
    Calls Tryd.prog 16 #[.pointer (some ⟨b, 0, none⟩), .agg #[.int .i64 1, .int .i64 n, .string ⟨t.toArray⟩, .slice ka kl kc, .slice la ll lc, .slice da dl dc]] w fun e w' => e = .returned (.tuple #[]) ∧ IsBuf B b (Lib.byteCells (bs ++ [116, 114, 117, 101])) w' ∧ Below B w w' ∧ OK b w w' := by
  have hb := Lib.IsBuffer.lt h
  have H := Lib.hid h
  clear h
  have d1 : ((n : Int) == 1) = true := by simp [hn]
  have HFB : Hid (∀ W, Calls Tryd.prog 28 #[.bool true] W fun e w' => e = .returned (.string ⟨([116, 114, 117, 101] : List UInt8).toArray⟩) ∧ w' = W) := Lib.hid (fun W => Tryd.strconv_FormatBool true W)
  clear hn
  go_enter Tryd.func16, Tryd.ntmps16
  go_wp2_with (first | (go_at_call 28; ((with_reducible refine (HFB.out _).mono ?_); rintro e w1 ⟨rfl, rfl⟩)) | (go_at_call 27; ((with_reducible refine (wStr B b bs [116, 114, 117, 101] _ (Lib.IsBuffer.old H.out (by (repeat' (first | (with_reducible exact Up.refl _) | (with_reducible assumption) | (with_reducible refine Up.alloc ?_ _) | (with_reducible refine Up.drew ?_) | (with_reducible refine Up.drewN ?_ _) | (with_reducible refine Up.setCell ?_ ?_ _) | (with_reducible refine Up.call ?_ (by with_reducible assumption)) | go_size)))) (by first | (simp; omega) | omega) (by first | (simp; omega) | omega)).mono ?_); rintro e w9 ⟨rfl, hI9, hb9, ho9⟩; have HI9 := Lib.hid hI9; have HB9 := Lib.hid (Below.trans ((show Up w _ by (repeat' (first | (with_reducible exact Up.refl _) | (with_reducible assumption) | (with_reducible refine Up.alloc ?_ _) | (with_reducible refine Up.drew ?_) | (with_reducible refine Up.drewN ?_ _) | (with_reducible refine Up.setCell ?_ ?_ _) | (with_reducible refine Up.call ?_ (by with_reducible assumption)) | go_size))).mono hBw) hb9); have HO9 := Lib.hid (((OK.refl b w).upc (show Up w _ by (repeat' (first | (with_reducible exact Up.refl _) | (with_reducible assumption) | (with_reducible refine Up.alloc ?_ _) | (with_reducible refine Up.drew ?_) | (with_reducible refine Up.drewN ?_ _) | (with_reducible refine Up.setCell ?_ ?_ _) | (with_reducible refine Up.call ?_ (by with_reducible assumption)) | go_size)))).tr ho9); clear hI9 hb9 ho9)))
  go_returns
  exact ⟨rfl, HI9.out, HB9.out, HO9.out⟩

set_option maxRecDepth 8000 in
set_option maxHeartbeats 4000000 in
theorem write_k1f (n : Int) (t : List UInt8) (ka : Option Addr) (kl kc : Nat) (la : Option Addr) (ll lc : Nat) (da : Option Addr) (dl dc : Nat) (hn : n ≠ 1) (B b : Nat) (bs : List UInt8) (w : World) (hBw : B ≤ w.heap.size) (h : IsBuf B b (Lib.byteCells bs) w) (hlim : bs.length + 200000 ≤ 140737488355328) :
    Calls Tryd.prog 16 #[.pointer (some ⟨b, 0, none⟩), .agg #[.int .i64 1, .int .i64 n, .string ⟨t.toArray⟩, .slice ka kl kc, .slice la ll lc, .slice da dl dc]] w fun e w' => e = .returned (.tuple #[]) ∧ IsBuf B b (Lib.byteCells (bs ++ [102, 97, 108, 115, 101])) w' ∧ Below B w w' ∧ OK b w w' := by
  have hb := Lib.IsBuffer.lt h
  have H := Lib.hid h
  clear h
  have d1 : ((n : Int) == 1) = false := by simp [hn]
  have HFB : Hid (∀ W, Calls Tryd.prog 28 #[.bool false] W fun e w' => e = .returned (.string ⟨([102, 97, 108, 115, 101] : List UInt8).toArray⟩) ∧ w' = W) := Lib.hid (fun W => Tryd.strconv_FormatBool false W)
  clear hn
  go_enter Tryd.func16, Tryd.ntmps16
  go_wp2_with (first | (go_at_call 28; ((with_reducible refine (HFB.out _).mono ?_); rintro e w1 ⟨rfl, rfl⟩)) | (go_at_call 27; ((with_reducible refine (wStr B b bs [102, 97, 108, 115, 101] _ (Lib.IsBuffer.old H.out (by (repeat' (first | (with_reducible exact Up.refl _) | (with_reducible assumption) | (with_reducible refine Up.alloc ?_ _) | (with_reducible refine Up.drew ?_) | (with_reducible refine Up.drewN ?_ _) | (with_reducible refine Up.setCell ?_ ?_ _) | (with_reducible refine Up.call ?_ (by with_reducible assumption)) | go_size)))) (by first | (simp; omega) | omega) (by first | (simp; omega) | omega)).mono ?_); rintro e w9 ⟨rfl, hI9, hb9, ho9⟩; have HI9 := Lib.hid hI9; have HB9 := Lib.hid (Below.trans ((show Up w _ by (repeat' (first | (with_reducible exact Up.refl _) | (with_reducible assumption) | (with_reducible refine Up.alloc ?_ _) | (with_reducible refine Up.drew ?_) | (with_reducible refine Up.drewN ?_ _) | (with_reducible refine Up.setCell ?_ ?_ _) | (with_reducible refine Up.call ?_ (by with_reducible assumption)) | go_size))).mono hBw) hb9); have HO9 := Lib.hid (((OK.refl b w).upc (show Up w _ by (repeat' (first | (with_reducible exact Up.refl _) | (with_reducible assumption) | (with_reducible refine Up.alloc ?_ _) | (with_reducible refine Up.drew ?_) | (with_reducible refine Up.drewN ?_ _) | (with_reducible refine Up.setCell ?_ ?_ _) | (with_reducible refine Up.call ?_ (by with_reducible assumption)) | go_size)))).tr ho9); clear hI9 hb9 ho9)))
  go_returns
  exact ⟨rfl, HI9.out, HB9.out, HO9.out⟩
theorem prR_len (n : Int) (h1 : -2147483648 ≤ n) (h2 : n ≤ 2147483647) : (prR n).length ≤ 100003 := by
  unfold prR
  have := prP_len n h1 h2
  split
  · simp; omega
  · omega

set_option maxRecDepth 8000 in
set_option maxHeartbeats 4000000 in
theorem write_k2 (n : Int) (t : List UInt8) (ka : Option Addr) (kl kc : Nat) (la : Option Addr) (ll lc : Nat) (da : Option Addr) (dl dc : Nat) (h1 : -2147483648 ≤ n) (h2 : n ≤ 2147483647) (B b : Nat) (bs : List UInt8) (w : World) (ht : PTab w) (hBw : B ≤ w.heap.size) (h : IsBuf B b (Lib.byteCells bs) w) (hlim : bs.length + 200000 ≤ 140737488355328) :
    Calls Tryd.prog 16 #[.pointer (some ⟨b, 0, none⟩), .agg #[.int .i64 2, .int .i64 n, .string ⟨t.toArray⟩, .slice ka kl kc, .slice la ll lc, .slice da dl dc]] w fun e w' => e = .returned (.tuple #[]) ∧ IsBuf B b (Lib.byteCells (bs ++ intL n)) w' ∧ Below B w w' ∧ OK b w w' := by
  have hb := Lib.IsBuffer.lt h
  have H := Lib.hid h
  clear h
  obtain ⟨L, hL⟩ : ∃ L, intL n = L := ⟨_, rfl⟩
  rw [hL]
  have HC : Hid (∀ W, Up w W → Calls Tryd.prog 29 #[.int .i64 n] W fun e w' => e = .returned (.string ⟨L.toArray⟩) ∧ Up W w') := Lib.hid (fun W hu => by rw [← hL]; exact itoa_calls n h1 h2 W (ht.up hu))
  have ll9 : L.length ≤ 110000 := by rw [← hL]; have := intL_len n h1 h2; omega
  clear hL ht
  go_enter Tryd.func16, Tryd.ntmps16
  go_wp2_with (first | (go_at_call 29; ((with_reducible refine Calls.mono (HC.out _ ?_) ?_); (focus ((repeat' (first | (with_reducible exact Up.refl _) | (with_reducible assumption) | (with_reducible refine Up.alloc ?_ _) | (with_reducible refine Up.drew ?_) | (with_reducible refine Up.drewN ?_ _) | (with_reducible refine Up.setCell ?_ ?_ _) | (with_reducible refine Up.call ?_ (by with_reducible assumption)) | go_size)))); rintro e w1 ⟨rfl, hu1⟩; have lw1 := hu1.size; (try simp at lw1))) | (go_at_call 27; ((with_reducible refine (wStr B b bs L _ (Lib.IsBuffer.old H.out (by (repeat' (first | (with_reducible exact Up.refl _) | (with_reducible assumption) | (with_reducible refine Up.alloc ?_ _) | (with_reducible refine Up.drew ?_) | (with_reducible refine Up.drewN ?_ _) | (with_reducible refine Up.setCell ?_ ?_ _) | (with_reducible refine Up.call ?_ (by with_reducible assumption)) | go_size)))) (by first | (simp; omega) | omega) (by first | (simp; omega) | omega)).mono ?_); rintro e w9 ⟨rfl, hI9, hb9, ho9⟩; have HI9 := Lib.hid hI9; have HB9 := Lib.hid (Below.trans ((show Up w _ by (repeat' (first | (with_reducible exact Up.refl _) | (with_reducible assumption) | (with_reducible refine Up.alloc ?_ _) | (with_reducible refine Up.drew ?_) | (with_reducible refine Up.drewN ?_ _) | (with_reducible refine Up.setCell ?_ ?_ _) | (with_reducible refine Up.call ?_ (by with_reducible assumption)) | go_size))).mono hBw) hb9); have HO9 := Lib.hid (((OK.refl b w).upc (show Up w _ by (repeat' (first | (with_reducible exact Up.refl _) | (with_reducible assumption) | (with_reducible refine Up.alloc ?_ _) | (with_reducible refine Up.drew ?_) | (with_reducible refine Up.drewN ?_ _) | (with_reducible refine Up.setCell ?_ ?_ _) | (with_reducible refine Up.call ?_ (by with_reducible assumption)) | go_size)))).tr ho9); clear hI9 hb9 ho9)))
  go_returns
  exact ⟨rfl, HI9.out, HB9.out, HO9.out⟩

set_option maxRecDepth 8000 in
set_option maxHeartbeats 4000000 in
theorem write_k3 (n : Int) (t : List UInt8) (ka : Option Addr) (kl kc : Nat) (la : Option Addr) (ll lc : Nat) (da : Option Addr) (dl dc : Nat) (h1 : -2147483648 ≤ n) (h2 : n ≤ 2147483647) (B b : Nat) (bs : List UInt8) (w : World) (hBw : B ≤ w.heap.size) (h : IsBuf B b (Lib.byteCells bs) w) (hlim : bs.length + 200000 ≤ 140737488355328) :
    Calls Tryd.prog 16 #[.pointer (some ⟨b, 0, none⟩), .agg #[.int .i64 3, .int .i64 n, .string ⟨t.toArray⟩, .slice ka kl kc, .slice la ll lc, .slice da dl dc]] w fun e w' => e = .returned (.tuple #[]) ∧ IsBuf B b (Lib.byteCells (bs ++ prR n)) w' ∧ Below B w w' ∧ OK b w w' := by
  have hb := Lib.IsBuffer.lt h
  have H := Lib.hid h
  clear h
  obtain ⟨L, hL⟩ : ∃ L, prR n = L := ⟨_, rfl⟩
  rw [hL]
  have HC : Hid (∀ W, Up w W → Calls Tryd.prog 30 #[.int .i64 n] W fun e w' => e = .returned (.string ⟨L.toArray⟩) ∧ Up W w') := Lib.hid (fun W hu => by rw [← hL]; exact printReal_calls n h1 h2 W)
  have ll9 : L.length ≤ 110000 := by rw [← hL]; have := prR_len n h1 h2; omega
  clear hL
  go_enter Tryd.func16, Tryd.ntmps16
  go_wp2_with (first | (go_at_call 30; ((with_reducible refine Calls.mono (HC.out _ ?_) ?_); (focus ((repeat' (first | (with_reducible exact Up.refl _) | (with_reducible assumption) | (with_reducible refine Up.alloc ?_ _) | (with_reducible refine Up.drew ?_) | (with_reducible refine Up.drewN ?_ _) | (with_reducible refine Up.setCell ?_ ?_ _) | (with_reducible refine Up.call ?_ (by with_reducible assumption)) | go_size)))); rintro e w1 ⟨rfl, hu1⟩; have lw1 := hu1.size; (try simp at lw1))) | (go_at_call 27; ((with_reducible refine (wStr B b bs L _ (Lib.IsBuffer.old H.out (by (repeat' (first | (with_reducible exact Up.refl _) | (with_reducible assumption) | (with_reducible refine Up.alloc ?_ _) | (with_reducible refine Up.drew ?_) | (with_reducible refine Up.drewN ?_ _) | (with_reducible refine Up.setCell ?_ ?_ _) | (with_reducible refine Up.call ?_ (by with_reducible assumption)) | go_size)))) (by first | (simp; omega) | omega) (by first | (simp; omega) | omega)).mono ?_); rintro e w9 ⟨rfl, hI9, hb9, ho9⟩; have HI9 := Lib.hid hI9; have HB9 := Lib.hid (Below.trans ((show Up w _ by (repeat' (first | (with_reducible exact Up.refl _) | (with_reducible assumption) | (with_reducible refine Up.alloc ?_ _) | (with_reducible refine Up.drew ?_) | (with_reducible refine Up.drewN ?_ _) | (with_reducible refine Up.setCell ?_ ?_ _) | (with_reducible refine Up.call ?_ (by with_reducible assumption)) | go_size))).mono hBw) hb9); have HO9 := Lib.hid (((OK.refl b w).upc (show Up w _ by (repeat' (first | (with_reducible exact Up.refl _) | (with_reducible assumption) | (with_reducible refine Up.alloc ?_ _) | (with_reducible refine Up.drew ?_) | (with_reducible refine Up.drewN ?_ _) | (with_reducible refine Up.setCell ?_ ?_ _) | (with_reducible refine Up.call ?_ (by with_reducible assumption)) | go_size)))).tr ho9); clear hI9 hb9 ho9)))
  go_returns
  exact ⟨rfl, HI9.out, HB9.out, HO9.out⟩

set_option maxRecDepth 8000 in
set_option maxHeartbeats 4000000 in
theorem write_k8 (n : Int) (t : List UInt8) (ka : Option Addr) (kl kc : Nat) (la : Option Addr) (ll lc : Nat) (da : Option Addr) (dl dc : Nat) (h1 : -2147483648 ≤ n) (h2 : n ≤ 2147483647) (B b : Nat) (bs : List UInt8) (w : World) (ht : PTab w) (hBw : B ≤ w.heap.size) (h : IsBuf B b (Lib.byteCells bs) w) (hlim : bs.length + 200000 ≤ 140737488355328) :
    Calls Tryd.prog 16 #[.pointer (some ⟨b, 0, none⟩), .agg #[.int .i64 8, .int .i64 n, .string ⟨t.toArray⟩, .slice ka kl kc, .slice la ll lc, .slice da dl dc]] w fun e w' => e = .returned (.tuple #[]) ∧ IsBuf B b (Lib.byteCells (bs ++ (intL n ++ [32, 48, 32, 82]))) w' ∧ Below B w w' ∧ OK b w w' := by
  have hb := Lib.IsBuffer.lt h
  have H := Lib.hid h
  clear h
  obtain ⟨L, hL⟩ : ∃ L, intL n = L := ⟨_, rfl⟩
  rw [hL]
  have HC : Hid (∀ W, Up w W → Calls Tryd.prog 29 #[.int .i64 n] W fun e w' => e = .returned (.string ⟨L.toArray⟩) ∧ Up W w') := Lib.hid (fun W hu => by rw [← hL]; exact itoa_calls n h1 h2 W (ht.up hu))
  have ll9 : L.length ≤ 110000 := by rw [← hL]; have := intL_len n h1 h2; omega
  clear hL ht
  have HST : Hid ((⟨L.toArray⟩ : ByteArray) ++ ⟨#[32, 48, 32, 82]⟩ = ⟨(L ++ [32, 48, 32, 82]).toArray⟩) := Lib.hid (str_app L [32, 48, 32, 82])
  go_enter Tryd.func16, Tryd.ntmps16
  go_wp2_with (first | (go_at_call 29; ((with_reducible refine Calls.mono (HC.out _ ?_) ?_); (focus ((repeat' (first | (with_reducible exact Up.refl _) | (with_reducible assumption) | (with_reducible refine Up.alloc ?_ _) | (with_reducible refine Up.drew ?_) | (with_reducible refine Up.drewN ?_ _) | (with_reducible refine Up.setCell ?_ ?_ _) | (with_reducible refine Up.call ?_ (by with_reducible assumption)) | go_size)))); rintro e w1 ⟨rfl, hu1⟩; have lw1 := hu1.size; (try simp at lw1))) | (go_at_call 27; (with_reducible rw [HST.out]); ((with_reducible refine (wStr B b bs (L ++ [32, 48, 32, 82]) _ (Lib.IsBuffer.old H.out (by (repeat' (first | (with_reducible exact Up.refl _) | (with_reducible assumption) | (with_reducible refine Up.alloc ?_ _) | (with_reducible refine Up.drew ?_) | (with_reducible refine Up.drewN ?_ _) | (with_reducible refine Up.setCell ?_ ?_ _) | (with_reducible refine Up.call ?_ (by with_reducible assumption)) | go_size)))) (by first | (simp; omega) | omega) (by first | (simp; omega) | omega)).mono ?_); rintro e w9 ⟨rfl, hI9, hb9, ho9⟩; have HI9 := Lib.hid hI9; have HB9 := Lib.hid (Below.trans ((show Up w _ by (repeat' (first | (with_reducible exact Up.refl _) | (with_reducible assumption) | (with_reducible refine Up.alloc ?_ _) | (with_reducible refine Up.drew ?_) | (with_reducible refine Up.drewN ?_ _) | (with_reducible refine Up.setCell ?_ ?_ _) | (with_reducible refine Up.call ?_ (by with_reducible assumption)) | go_size))).mono hBw) hb9); have HO9 := Lib.hid (((OK.refl b w).upc (show Up w _ by (repeat' (first | (with_reducible exact Up.refl _) | (with_reducible assumption) | (with_reducible refine Up.alloc ?_ _) | (with_reducible refine Up.drew ?_) | (with_reducible refine Up.drewN ?_ _) | (with_reducible refine Up.setCell ?_ ?_ _) | (with_reducible refine Up.call ?_ (by with_reducible assumption)) | go_size)))).tr ho9); clear hI9 hb9 ho9)))
  go_returns
  exact ⟨rfl, HI9.out, HB9.out, HO9.out⟩

set_option maxRecDepth 8000 in
set_option maxHeartbeats 4000000 in
theorem write_k4 (n : Int) (t : List UInt8) (ka : Option Addr) (kl kc : Nat) (la : Option Addr) (ll lc : Nat) (da : Option Addr) (dl dc : Nat)  (B b : Nat) (bs : List UInt8) (w : World) (hBw : B ≤ w.heap.size) (h : IsBuf B b (Lib.byteCells bs) w) (hlim : bs.length + 3 * t.length + 200000 ≤ 140737488355328) :
    Calls Tryd.prog 16 #[.pointer (some ⟨b, 0, none⟩), .agg #[.int .i64 4, .int .i64 n, .string ⟨t.toArray⟩, .slice ka kl kc, .slice la ll lc, .slice da dl dc]] w fun e w' => e = .returned (.tuple #[]) ∧ IsBuf B b (Lib.byteCells (bs ++ (47 :: enc t))) w' ∧ Below B w w' ∧ OK b w w' := by
  have hb := Lib.IsBuffer.lt h
  have H := Lib.hid h
  clear h
  go_enter Tryd.func16, Tryd.ntmps16
  go_wp2_with (go_at_call 31; ((with_reducible refine (name_calls B b bs t _ (Lib.IsBuffer.old H.out (by (repeat' (first | (with_reducible exact Up.refl _) | (with_reducible assumption) | (with_reducible refine Up.alloc ?_ _) | (with_reducible refine Up.drew ?_) | (with_reducible refine Up.drewN ?_ _) | (with_reducible refine Up.setCell ?_ ?_ _) | (with_reducible refine Up.call ?_ (by with_reducible assumption)) | go_size)))) (by first | (simp; omega) | omega) (by omega)).mono ?_); rintro e w9 ⟨rfl, hI9, hb9, ho9⟩; have HI9 := Lib.hid hI9; have HB9 := Lib.hid (Below.trans ((show Up w _ by (repeat' (first | (with_reducible exact Up.refl _) | (with_reducible assumption) | (with_reducible refine Up.alloc ?_ _) | (with_reducible refine Up.drew ?_) | (with_reducible refine Up.drewN ?_ _) | (with_reducible refine Up.setCell ?_ ?_ _) | (with_reducible refine Up.call ?_ (by with_reducible assumption)) | go_size))).mono hBw) hb9); have HO9 := Lib.hid (((OK.refl b w).upc (show Up w _ by (repeat' (first | (with_reducible exact Up.refl _) | (with_reducible assumption) | (with_reducible refine Up.alloc ?_ _) | (with_reducible refine Up.drew ?_) | (with_reducible refine Up.drewN ?_ _) | (with_reducible refine Up.setCell ?_ ?_ _) | (with_reducible refine Up.call ?_ (by with_reducible assumption)) | go_size)))).tr (OK.of ho9)); clear hI9 hb9 ho9))
  go_returns
  exact ⟨rfl, HI9.out, HB9.out, HO9.out⟩

set_option maxRecDepth 8000 in
set_option maxHeartbeats 4000000 in
theorem write_k5 (n : Int) (t : List UInt8) (ka : Option Addr) (kl kc : Nat) (la : Option Addr) (ll lc : Nat) (da : Option Addr) (dl dc : Nat)  (B b : Nat) (bs : List UInt8) (w : World) (hBw : B ≤ w.heap.size) (h : IsBuf B b (Lib.byteCells bs) w) (hlim : bs.length + 4 * t.length + 200000 ≤ 140737488355328) :
    Calls Tryd.prog 16 #[.pointer (some ⟨b, 0, none⟩), .agg #[.int .i64 5, .int .i64 n, .string ⟨t.toArray⟩, .slice ka kl kc, .slice la ll lc, .slice da dl dc]] w fun e w' => e = .returned (.tuple #[]) ∧ IsBuf B b (Lib.byteCells (bs ++ (40 :: (txt t ++ [41])))) w' ∧ Below B w w' ∧ OK b w w' := by
  have hb := Lib.IsBuffer.lt h
  have H := Lib.hid h
  clear h
  go_enter Tryd.func16, Tryd.ntmps16
  go_wp2_with (go_at_call 32; ((with_reducible refine (text_calls B b bs t _ (Lib.IsBuffer.old H.out (by (repeat' (first | (with_reducible exact Up.refl _) | (with_reducible assumption) | (with_reducible refine Up.alloc ?_ _) | (with_reducible refine Up.drew ?_) | (with_reducible refine Up.drewN ?_ _) | (with_reducible refine Up.setCell ?_ ?_ _) | (with_reducible refine Up.call ?_ (by with_reducible assumption)) | go_size)))) (by first | (simp; omega) | omega) (by omega)).mono ?_); rintro e w9 ⟨rfl, hI9, hb9, ho9⟩; have HI9 := Lib.hid hI9; have HB9 := Lib.hid (Below.trans ((show Up w _ by (repeat' (first | (with_reducible exact Up.refl _) | (with_reducible assumption) | (with_reducible refine Up.alloc ?_ _) | (with_reducible refine Up.drew ?_) | (with_reducible refine Up.drewN ?_ _) | (with_reducible refine Up.setCell ?_ ?_ _) | (with_reducible refine Up.call ?_ (by with_reducible assumption)) | go_size))).mono hBw) hb9); have HO9 := Lib.hid (((OK.refl b w).upc (show Up w _ by (repeat' (first | (with_reducible exact Up.refl _) | (with_reducible assumption) | (with_reducible refine Up.alloc ?_ _) | (with_reducible refine Up.drew ?_) | (with_reducible refine Up.drewN ?_ _) | (with_reducible refine Up.setCell ?_ ?_ _) | (with_reducible refine Up.call ?_ (by with_reducible assumption)) | go_size)))).tr (OK.of ho9)); clear hI9 hb9 ho9))
  go_returns
  exact ⟨rfl, HI9.out, HB9.out, HO9.out⟩

/-- an array's first i elements, as they stand behind the bracket that comes with the first -/
def arrA (f : PO → List UInt8) (l : List PO) (i : Nat) : List UInt8 := if i = 0 then [] else 91 :: elsP f l i
theorem arr_succ (f : PO → List UInt8) (l : List PO) (i : Nat) : arrA f l (i + 1) = arrA f l i ++ ([if i = 0 then 91 else 32] ++ f (l.getD i dfl)) := by
  unfold arrA
  rw [if_neg (by omega), els_succ]
  by_cases h : i = 0
  · subst h; simp [elsP]
  · simp [h]
theorem arr_le (f : PO → List UInt8) (l : List PO) (i : Nat) : (arrA f l i).length ≤ (elsP f l i).length + 1 := by
  unfold arrA; split <;> simp

set_option maxRecDepth 8000 in
set_option maxHeartbeats 4000000 in
theorem write_k6 (n : Int) (t : List UInt8) (ka : Option Addr) (kl kc : Nat) (la : Option Addr) (ll lc : Nat) (da : Option Addr) (dl dc : Nat) (l : List PO) (f : PO → List UInt8) (w0 : World) (hl : Sl 6 PO.cells w0 la ll lc l) (hrec : ∀ c ∈ l, WrC w0 (f c) c.cells.toArray) (B b : Nat) (bs : List UInt8) (w : World) (h0 : w0.heap.size ≤ B) (hu : Up w0 w) (hBw : B ≤ w.heap.size) (h : IsBuf B b (Lib.byteCells bs) w) (hlim : bs.length + (elsP f l l.length).length + 2 ≤ 140737480000000) :
    Calls Tryd.prog 16 #[.pointer (some ⟨b, 0, none⟩), .agg #[.int .i64 6, .int .i64 n, .string ⟨t.toArray⟩, .slice ka kl kc, .slice la ll lc, .slice da dl dc]] w fun e w' => e = .returned (.tuple #[]) ∧ IsBuf B b (Lib.byteCells (bs ++ (91 :: (elsP f l l.length ++ [93])))) w' ∧ Below B w w' ∧ OK b w w' := by
  have hb := Lib.IsBuffer.lt h
  have H := Lib.hid h
  clear h
  have HL := Lib.hid hl
  have HLN := Lib.hid hl.2.2.1
  have HREC := Lib.hid hrec
  have HU0 := Lib.hid hu
  have l1 := hl.1
  have l2 := hl.2.1
  have HLIM := Lib.hid (show bs.length + (elsP f l ll).length + 2 ≤ 140737480000000 by have := hl.2.2.1; rw [this] at hlim; exact hlim)
  have hlen0 : bs.length ≤ 140737480000000 := by omega
  clear hl hrec hu hlim
  have HX0 := Lib.hid (BoxAt.new w #[.int .i64 6, .int .i64 n, .string ⟨t.toArray⟩, .slice ka kl kc, .slice la ll lc, .slice da dl dc])
  go_enter Tryd.func16, Tryd.ntmps16
  go_wp2
  go_loopw [75] (fun s75 wr => ∃ i : Nat, i ≤ ll ∧ s75 = .int .i64 i ∧ Hid (IsBuf B b (Lib.byteCells (bs ++ arrA f l i)) wr ∧ Below B w wr ∧ OK b w wr ∧ BoxAt wr w.heap.size #[.int .i64 6, .int .i64 n, .string ⟨t.toArray⟩, .slice ka kl kc, .slice la ll lc, .slice da dl dc])) (fun s75 _ => ll - (intOf s75).toNat)
  case atStart => exact ⟨0, Nat.zero_le _, rfl, Lib.hid ⟨by rw [show bs ++ arrA f l 0 = bs by simp [arrA]]; exact Lib.IsBuffer.old H.out (by (repeat' (first | (with_reducible exact Up.refl _) | (with_reducible assumption) | (with_reducible refine Up.alloc ?_ _) | (with_reducible refine Up.drew ?_) | (with_reducible refine Up.drewN ?_ _) | (with_reducible refine Up.setCell ?_ ?_ _) | (with_reducible refine Up.call ?_ (by with_reducible assumption)) | go_size))), (show Up w _ by (repeat' (first | (with_reducible exact Up.refl _) | (with_reducible assumption) | (with_reducible refine Up.alloc ?_ _) | (with_reducible refine Up.drew ?_) | (with_reducible refine Up.drewN ?_ _) | (with_reducible refine Up.setCell ?_ ?_ _) | (with_reducible refine Up.call ?_ (by with_reducible assumption)) | go_size))).mono hBw, (OK.refl b w).upc (show Up w _ by (repeat' (first | (with_reducible exact Up.refl _) | (with_reducible assumption) | (with_reducible refine Up.alloc ?_ _) | (with_reducible refine Up.drew ?_) | (with_reducible refine Up.drewN ?_ _) | (with_reducible refine Up.setCell ?_ ?_ _) | (with_reducible refine Up.call ?_ (by with_reducible assumption)) | go_size))), HX0.out⟩⟩
  case round =>
    obtain ⟨i, hi, rfl, HR⟩ := hrel
    have y4 := HR.out.2.2.2.cell 4 rfl
    have ly := HR.out.2.2.2.lt
    have HUR := Lib.hid (up_below HU0.out HR.out.2.1 h0)
    have zr := HR.out.2.1.size
    by_cases hlt : i < ll
    · have dlt : decide (i < ll) = true := decide_eq_true hlt
      obtain ⟨gb, go, rfl, hgb, hgc⟩ := sl_some HL.out (by omega)
      obtain ⟨c, hc⟩ : ∃ c, l[i]? = some c := ⟨_, List.getElem?_eq_getElem (by have := HLN.out; omega)⟩
      have lgb : gb < wr.heap.size := Nat.lt_of_lt_of_le hgb HUR.out.size
      have HPL := Lib.hid (els_le f l hlt)
      rw [getD_of hc] at HPL
      have HPS := Lib.hid (arr_succ f l i)
      rw [getD_of hc] at HPS
      have HRC := Lib.hid (HREC.out c (List.mem_of_getElem? hc))
      have HAL := Lib.hid (arr_le f l i)
      have HC := Lib.hid hc
      obtain ⟨ck, cn, ct, cka, ckl, ckc, cks, cla, cll, clc, cl, cda, cdl, cdc, cd⟩ := c
      obtain ⟨F, hF⟩ : ∃ F, f (.mk ck cn ct cka ckl ckc cks cla cll clc cl cda cdl cdc cd) = F := ⟨_, rfl⟩
      rw [hF] at HPL HPS HRC
      have HRC2 : Hid (WrC w0 F #[.int .i64 ck, .int .i64 cn, .string ⟨ct.toArray⟩, .slice cka ckl ckc, .slice cla cll clc, .slice cda cdl cdc]) := HRC
      have HL5 := Lib.hid (show bs.length + (arrA f l i).length + F.length + 1 ≤ 140737480000000 by have h1 := HLIM.out; have h2 := HPL.out; have h3 := HAL.out; omega)
      obtain ⟨e0, e1, e2, e3, e4, e5⟩ := po_at hgb hgc HUR.out HC.out
      clear hc hgc hgb hF HRC
      by_cases hi0 : i = 0
      · subst hi0
        rw [if_pos rfl] at HPS
        simp only [Nat.zero_mul, Nat.add_zero] at e0 e1 e2 e3 e4 e5
        go_wp2_with (first
          | (go_at_call 33; ((refine (wByte B b (bs ++ arrA f l 0) 91 _ (by rfl) _ (Lib.IsBuffer.old HR.out.1 (by (repeat' (first | (with_reducible exact Up.refl _) | (with_reducible assumption) | (with_reducible refine Up.alloc ?_ _) | (with_reducible refine Up.drew ?_) | (with_reducible refine Up.drewN ?_ _) | (with_reducible refine Up.setCell ?_ ?_ _) | (with_reducible refine Up.call ?_ (by with_reducible assumption)) | go_size)))) (by first | (simp; omega) | omega) (by have := HL5.out; simp only [List.length_append]; omega)).mono ?_); rintro e w2 ⟨rfl, hI2, hb2, ho2⟩; have HI2 := Lib.hid hI2; have HB2 := Lib.hid (HR.out.2.1.trans (Below.trans ((show Up wr _ by (repeat' (first | (with_reducible exact Up.refl _) | (with_reducible assumption) | (with_reducible refine Up.alloc ?_ _) | (with_reducible refine Up.drew ?_) | (with_reducible refine Up.drewN ?_ _) | (with_reducible refine Up.setCell ?_ ?_ _) | (with_reducible refine Up.call ?_ (by with_reducible assumption)) | go_size))).mono (by omega)) hb2)); have HO2 := Lib.hid (HR.out.2.2.1.tr (((OK.refl b wr).upc (show Up wr _ by (repeat' (first | (with_reducible exact Up.refl _) | (with_reducible assumption) | (with_reducible refine Up.alloc ?_ _) | (with_reducible refine Up.drew ?_) | (with_reducible refine Up.drewN ?_ _) | (with_reducible refine Up.setCell ?_ ?_ _) | (with_reducible refine Up.call ?_ (by with_reducible assumption)) | go_size)))).tr ho2)); have HX2 := Lib.hid ((HR.out.2.2.2.up (show Up wr _ by (repeat' (first | (with_reducible exact Up.refl _) | (with_reducible assumption) | (with_reducible refine Up.alloc ?_ _) | (with_reducible refine Up.drew ?_) | (with_reducible refine Up.drewN ?_ _) | (with_reducible refine Up.setCell ?_ ?_ _) | (with_reducible refine Up.call ?_ (by with_reducible assumption)) | go_size)))).kept ho2 (by omega)); have HXX := Lib.hid ((BoxAt.new wr #[.int .i64 ck, .int .i64 cn, .string ⟨ct.toArray⟩, .slice cka ckl ckc, .slice cla cll clc, .slice cda cdl cdc]).kept ho2 (by omega)); have z2 := HB2.out.size; have HU2 := Lib.hid (up_below HU0.out HB2.out h0); have r0 := HXX.out.cell 0 rfl; have r1 := HXX.out.cell 1 rfl; have r2 := HXX.out.cell 2 rfl; have r3 := HXX.out.cell 3 rfl; have r4 := HXX.out.cell 4 rfl; have r5 := HXX.out.cell 5 rfl; have lr2 := HXX.out.lt; clear hI2 hb2 ho2))
          | (go_at_call 16; ((with_reducible refine (HRC2.out B b (bs ++ arrA f l 0 ++ [91]) _ h0 HU2.out (by omega) HI2.out (by have := HL5.out; simp only [List.length_append, List.length_cons, List.length_nil]; omega)).mono ?_); rintro e w5 ⟨rfl, hI5, hb5, ho5⟩; have HI5 := Lib.hid hI5; have HB5 := Lib.hid (HB2.out.trans hb5); have HO5 := Lib.hid (HO2.out.tr ho5); have HX5 := Lib.hid (HX2.out.kept ho5 (by omega)); clear hI5 hb5 ho5)))
        go_roundw
        case measure => simp [intOf]; omega
        case rel =>
          refine ⟨0 + 1, by omega, by go_num, Lib.hid ⟨?_, HB5.out, HO5.out, HX5.out⟩⟩
          have e9 : bs ++ arrA f l (0 + 1) = bs ++ arrA f l 0 ++ [91] ++ F := by rw [HPS.out]; simp
          rw [e9]; exact HI5.out
      · have mi : min (i : Int) 1 = 1 := by omega
        rw [if_neg hi0] at HPS
        have hi1 : 0 < i := by omega
        clear hi0
        go_wp2_with (first
          | (go_at_call 33; ((refine (wByte B b (bs ++ arrA f l i) 32 _ (by rfl) _ (Lib.IsBuffer.old HR.out.1 (by (repeat' (first | (with_reducible exact Up.refl _) | (with_reducible assumption) | (with_reducible refine Up.alloc ?_ _) | (with_reducible refine Up.drew ?_) | (with_reducible refine Up.drewN ?_ _) | (with_reducible refine Up.setCell ?_ ?_ _) | (with_reducible refine Up.call ?_ (by with_reducible assumption)) | go_size)))) (by first | (simp; omega) | omega) (by have := HL5.out; simp only [List.length_append]; omega)).mono ?_); rintro e w2 ⟨rfl, hI2, hb2, ho2⟩; have HI2 := Lib.hid hI2; have HB2 := Lib.hid (HR.out.2.1.trans (Below.trans ((show Up wr _ by (repeat' (first | (with_reducible exact Up.refl _) | (with_reducible assumption) | (with_reducible refine Up.alloc ?_ _) | (with_reducible refine Up.drew ?_) | (with_reducible refine Up.drewN ?_ _) | (with_reducible refine Up.setCell ?_ ?_ _) | (with_reducible refine Up.call ?_ (by with_reducible assumption)) | go_size))).mono (by omega)) hb2)); have HO2 := Lib.hid (HR.out.2.2.1.tr (((OK.refl b wr).upc (show Up wr _ by (repeat' (first | (with_reducible exact Up.refl _) | (with_reducible assumption) | (with_reducible refine Up.alloc ?_ _) | (with_reducible refine Up.drew ?_) | (with_reducible refine Up.drewN ?_ _) | (with_reducible refine Up.setCell ?_ ?_ _) | (with_reducible refine Up.call ?_ (by with_reducible assumption)) | go_size)))).tr ho2)); have HX2 := Lib.hid ((HR.out.2.2.2.up (show Up wr _ by (repeat' (first | (with_reducible exact Up.refl _) | (with_reducible assumption) | (with_reducible refine Up.alloc ?_ _) | (with_reducible refine Up.drew ?_) | (with_reducible refine Up.drewN ?_ _) | (with_reducible refine Up.setCell ?_ ?_ _) | (with_reducible refine Up.call ?_ (by with_reducible assumption)) | go_size)))).kept ho2 (by omega)); have HXX := Lib.hid ((BoxAt.new wr #[.int .i64 ck, .int .i64 cn, .string ⟨ct.toArray⟩, .slice cka ckl ckc, .slice cla cll clc, .slice cda cdl cdc]).kept ho2 (by omega)); have z2 := HB2.out.size; have HU2 := Lib.hid (up_below HU0.out HB2.out h0); have r0 := HXX.out.cell 0 rfl; have r1 := HXX.out.cell 1 rfl; have r2 := HXX.out.cell 2 rfl; have r3 := HXX.out.cell 3 rfl; have r4 := HXX.out.cell 4 rfl; have r5 := HXX.out.cell 5 rfl; have lr2 := HXX.out.lt; clear hI2 hb2 ho2))
          | (go_at_call 16; ((with_reducible refine (HRC2.out B b (bs ++ arrA f l i ++ [32]) _ h0 HU2.out (by omega) HI2.out (by have := HL5.out; simp only [List.length_append, List.length_cons, List.length_nil]; omega)).mono ?_); rintro e w5 ⟨rfl, hI5, hb5, ho5⟩; have HI5 := Lib.hid hI5; have HB5 := Lib.hid (HB2.out.trans hb5); have HO5 := Lib.hid (HO2.out.tr ho5); have HX5 := Lib.hid (HX2.out.kept ho5 (by omega)); clear hI5 hb5 ho5)))
        go_roundw
        case measure => simp [intOf]; omega
        case rel =>
          refine ⟨i + 1, by omega, by go_num, Lib.hid ⟨?_, HB5.out, HO5.out, HX5.out⟩⟩
          have e9 : bs ++ arrA f l (i + 1) = bs ++ arrA f l i ++ [32] ++ F := by rw [HPS.out]; simp
          rw [e9]; exact HI5.out
    · have dlt : decide (i < ll) = false := decide_eq_false hlt
      obtain rfl : ll = i := by omega
      by_cases hz : ll = 0
      · subst hz
        go_wp2_with (first
          | (go_at_call 33; ((with_reducible refine (wByte B b (bs ++ arrA f l 0) 91 91 rfl _ HR.out.1 (by omega) (by have := HLIM.out; have h3 := arr_le f l 0; simp only [List.length_append]; omega)).mono ?_); rintro e w2 ⟨rfl, hI2, hb2, ho2⟩; have HI2 := Lib.hid hI2; have HB2 := Lib.hid (HR.out.2.1.trans hb2); have HO2 := Lib.hid (HR.out.2.2.1.tr ho2); have z2 := HB2.out.size; clear hI2 hb2 ho2))
          | (go_at_call 33; ((with_reducible refine (wByte B b (bs ++ arrA f l 0 ++ [91]) 93 93 rfl _ HI2.out (by omega) (by have := HLIM.out; have h3 := arr_le f l 0; simp only [List.length_append, List.length_cons, List.length_nil]; omega)).mono ?_); rintro e w3 ⟨rfl, hI3, hb3, ho3⟩; have HI3 := Lib.hid hI3; have HB3 := Lib.hid (HB2.out.trans hb3); have HO3 := Lib.hid (HO2.out.tr ho3); clear hI3 hb3 ho3)))
        go_returns
        refine ⟨rfl, ?_, HB3.out, HO3.out⟩
        have e9 : bs ++ 91 :: (elsP f l l.length ++ [93]) = bs ++ arrA f l 0 ++ [91] ++ [93] := by rw [HLN.out]; simp [arrA, elsP]
        rw [e9]; exact HI3.out
      · have dz : ((ll : Int) == 0) = false := by simp; omega
        have HE := Lib.hid (show arrA f l ll = 91 :: elsP f l ll by unfold arrA; rw [if_neg hz])
        have hz1 : 0 < ll := by omega
        clear hz
        go_wp2_with (go_at_call 33; ((with_reducible refine (wByte B b (bs ++ arrA f l ll) 93 93 rfl _ HR.out.1 (by omega) (by have := HLIM.out; have h3 := arr_le f l ll; simp only [List.length_append]; omega)).mono ?_); rintro e w2 ⟨rfl, hI2, hb2, ho2⟩; have HI2 := Lib.hid hI2; have HB2 := Lib.hid (HR.out.2.1.trans hb2); have HO2 := Lib.hid (HR.out.2.2.1.tr ho2); clear hI2 hb2 ho2))
        go_returns
        refine ⟨rfl, ?_, HB2.out, HO2.out⟩
        have e9 : bs ++ 91 :: (elsP f l l.length ++ [93]) = bs ++ arrA f l ll ++ [93] := by rw [HLN.out, HE.out]; simp
        rw [e9]; exact HI2.out

set_option maxRecDepth 8000 in
set_option maxHeartbeats 4000000 in
theorem write_k7 (n : Int) (t : List UInt8) (ka : Option Addr) (kl kc : Nat) (la : Option Addr) (ll lc : Nat) (da : Option Addr) (dl dc : Nat) (ks : List (List UInt8)) (l : List PO) (f : PO → List UInt8) (w0 : World) (hk : Sl 1 kcells w0 ka kl kc ks) (hl : Sl 6 PO.cells w0 la ll lc l) (hkl : kl = ll) (hkb : ∀ s ∈ ks, s.length ≤ 300) (hrec : ∀ c ∈ l, WrC w0 (f c) c.cells.toArray)
    (B b : Nat) (bs : List UInt8) (w : World) (h0 : w0.heap.size ≤ B) (hu : Up w0 w) (hBw : B ≤ w.heap.size) (h : IsBuf B b (Lib.byteCells bs) w) (hlim : bs.length + (dictP f ks l []).length ≤ 140737480000000) :
    Calls Tryd.prog 16 #[.pointer (some ⟨b, 0, none⟩), .agg #[.int .i64 7, .int .i64 n, .string ⟨t.toArray⟩, .slice ka kl kc, .slice la ll lc, .slice da dl dc]] w fun e w' => e = .returned (.tuple #[]) ∧ IsBuf B b (Lib.byteCells (bs ++ dictP f ks l [])) w' ∧ Below B w w' ∧ OK b w w' := by
  have hb := Lib.IsBuffer.lt h
  have HP : Hid (∀ W, Up w W → Calls Tryd.prog 34 #[.pointer (some ⟨b, 0, none⟩), .agg #[.int .i64 7, .int .i64 n, .string ⟨t.toArray⟩, .slice ka kl kc, .slice la ll lc, .slice da dl dc], .string ⟨#[]⟩] W fun e w' => e = .returned (.tuple #[]) ∧ IsBuf B b (Lib.byteCells (bs ++ dictP f ks l [])) w' ∧ Below B W w' ∧ OK b W w') := Lib.hid (fun W hW => pairs_calls f 7 n t ka kl kc ks la ll lc l da dl dc [] (by simp) w0 hk hl hkl hkb hrec B b bs W h0 (hu.call hW) (Nat.le_trans hBw hW.size) (Lib.IsBuffer.old h hW) hlim)
  clear h hk hl hkl hkb hrec hu hlim
  go_enter Tryd.func16, Tryd.ntmps16
  go_wp2_with (go_at_call 34; ((with_reducible refine Calls.mono (HP.out _ ?_) ?_); (focus ((repeat' (first | (with_reducible exact Up.refl _) | (with_reducible assumption) | (with_reducible refine Up.alloc ?_ _) | (with_reducible refine Up.drew ?_) | (with_reducible refine Up.drewN ?_ _) | (with_reducible refine Up.setCell ?_ ?_ _) | (with_reducible refine Up.call ?_ (by with_reducible assumption)) | go_size)))); rintro e w9 ⟨rfl, hI9, hb9, ho9⟩; have HI9 := Lib.hid hI9; have HB9 := Lib.hid (Below.trans ((show Up w _ by (repeat' (first | (with_reducible exact Up.refl _) | (with_reducible assumption) | (with_reducible refine Up.alloc ?_ _) | (with_reducible refine Up.drew ?_) | (with_reducible refine Up.drewN ?_ _) | (with_reducible refine Up.setCell ?_ ?_ _) | (with_reducible refine Up.call ?_ (by with_reducible assumption)) | go_size))).mono hBw) hb9); have HO9 := Lib.hid (((OK.refl b w).upc (show Up w _ by (repeat' (first | (with_reducible exact Up.refl _) | (with_reducible assumption) | (with_reducible refine Up.alloc ?_ _) | (with_reducible refine Up.drew ?_) | (with_reducible refine Up.drewN ?_ _) | (with_reducible refine Up.setCell ?_ ?_ _) | (with_reducible refine Up.call ?_ (by with_reducible assumption)) | go_size)))).tr ho9); clear hI9 hb9 ho9))
  go_returns
  exact ⟨rfl, HI9.out, HB9.out, HO9.out⟩

set_option maxRecDepth 8000 in
set_option maxHeartbeats 4000000 in
theorem write_k9e (n : Int) (t : List UInt8) (ka : Option Addr) (kl kc : Nat) (la : Option Addr) (ll lc : Nat) (da : Option Addr) (dl dc : Nat) (ks : List (List UInt8)) (l : List PO) (d : List UInt8) (f : PO → List UInt8) (w0 : World) (ht : PTab w0) (hk : Sl 1 kcells w0 ka kl kc ks) (hl : Sl 6 PO.cells w0 la ll lc l) (hd : Sl 1 dcells w0 da dl dc d) (hdl : dl ≤ 5000) (hz : dl = 0) (hkl : kl = ll) (hkb : ∀ s ∈ ks, s.length ≤ 300) (hrec : ∀ c ∈ l, WrC w0 (f c) c.cells.toArray)
    (B b : Nat) (bs : List UInt8) (w : World) (h0 : w0.heap.size ≤ B) (hu : Up w0 w) (hBw : B ≤ w.heap.size) (h : IsBuf B b (Lib.byteCells bs) w) (hlim : bs.length + (dictP f ks l (lenP d.length) ++ ([10, 115, 116, 114, 101, 97, 109, 10] ++ (d ++ [10, 101, 110, 100, 115, 116, 114, 101, 97, 109]))).length ≤ 140737480000000) :
    Calls Tryd.prog 16 #[.pointer (some ⟨b, 0, none⟩), .agg #[.int .i64 9, .int .i64 n, .string ⟨t.toArray⟩, .slice ka kl kc, .slice la ll lc, .slice da dl dc]] w fun e w' => e = .returned (.tuple #[]) ∧ IsBuf B b (Lib.byteCells (bs ++ (dictP f ks l (lenP d.length) ++ ([10, 115, 116, 114, 101, 97, 109, 10] ++ (d ++ [10, 101, 110, 100, 115, 116, 114, 101, 97, 109]))))) w' ∧ Below B w w' ∧ OK b w w' := by
  subst hz
  have hb := Lib.IsBuffer.lt h
  have H := Lib.hid h
  have HU0 := Lib.hid hu
  have d1 := hd.1
  have d2 := hd.2.1
  have HD := Lib.hid hd
  have hdn := hd.2.2.1
  rw [hdn] at hlim ⊢
  obtain ⟨L, hL⟩ : ∃ L, intL (0 : Int) = L := ⟨_, rfl⟩
  have HC : Hid (∀ W, Up w W → Calls Tryd.prog 29 #[.int .i64 (0 : Int)] W fun e w' => e = .returned (.string ⟨L.toArray⟩) ∧ Up W w') := Lib.hid (fun W hW => by rw [← hL]; exact itoa_calls (0 : Int) (by omega) (by omega) W (ht.up (hu.call hW)))
  have ll9 : L.length ≤ 101 := by rw [← hL]; exact intL_len (0 : Int) (by omega) (by omega)
  have nl9 : ¬ (9223372036854775807 < 9 + L.length) := by omega
  obtain ⟨M, hM⟩ : ∃ M, lenP 0 = M := ⟨_, rfl⟩
  have HM := Lib.hid (show [32, 47, 76, 101, 110, 103, 116, 104, 32] ++ L = M by rw [← hM, ← hL]; rfl)
  have HST : Hid ((⟨#[32, 47, 76, 101, 110, 103, 116, 104, 32]⟩ : ByteArray) ++ ⟨L.toArray⟩ = ⟨M.toArray⟩) := Lib.hid (by rw [← HM.out]; exact str_app [32, 47, 76, 101, 110, 103, 116, 104, 32] L)
  have mo9 : M.length ≤ 1000 := by rw [← HM.out]; simp; omega
  rw [hM] at hlim ⊢
  obtain ⟨D, hD⟩ : ∃ D, dictP f ks l M = D := ⟨_, rfl⟩
  have HLIM := Lib.hid (show bs.length + D.length + d.length + 18 ≤ 140737480000000 by rw [hD] at hlim; simp only [List.length_append, List.length_cons, List.length_nil] at hlim; omega)
  have HP : Hid (∀ W, Up w W → Calls Tryd.prog 34 #[.pointer (some ⟨b, 0, none⟩), .agg #[.int .i64 9, .int .i64 n, .string ⟨t.toArray⟩, .slice ka kl kc, .slice la ll lc, .slice da 0 dc], .string ⟨M.toArray⟩] W fun e w' => e = .returned (.tuple #[]) ∧ IsBuf B b (Lib.byteCells (bs ++ D)) w' ∧ Below B W w' ∧ OK b W w') := Lib.hid (fun W hW => by rw [← hD]; exact pairs_calls f 9 n t ka kl kc ks la ll lc l da 0 dc M mo9 w0 hk hl hkl hkb hrec B b bs W h0 (hu.call hW) (Nat.le_trans hBw hW.size) (Lib.IsBuffer.old h hW) (by have := HLIM.out; rw [hD]; omega))
  rw [hD]
  have HDN := Lib.hid hdn
  clear h hk hl hkl hkb hrec hu hlim hd ht hL hM hD hdn
  go_enter Tryd.func16, Tryd.ntmps16
  go_wp2
  go_region_law (first
    | (go_simp; go_at_call 29; ((with_reducible refine Calls.mono (HC.out _ ?_) ?_); (focus ((repeat' (first | (with_reducible exact Up.refl _) | (with_reducible assumption) | (with_reducible refine Up.alloc ?_ _) | (with_reducible refine Up.drew ?_) | (with_reducible refine Up.drewN ?_ _) | (with_reducible refine Up.setCell ?_ ?_ _) | (with_reducible refine Up.call ?_ (by with_reducible assumption)) | go_size)))); rintro e w1 ⟨rfl, hu1⟩; have HX1 := Lib.hid (BoxAt.up (BoxAt.new w #[.int .i64 9, .int .i64 n, .string ⟨t.toArray⟩, .slice ka kl kc, .slice la ll lc, .slice da 0 dc]) (show Up (w.alloc _) w1 by (repeat' (first | (with_reducible exact Up.refl _) | (with_reducible assumption) | (with_reducible refine Up.alloc ?_ _) | (with_reducible refine Up.drew ?_) | (with_reducible refine Up.drewN ?_ _) | (with_reducible refine Up.setCell ?_ ?_ _) | (with_reducible refine Up.call ?_ (by with_reducible assumption)) | go_size)))); have x0 := HX1.out.cell 0 rfl; have x1 := HX1.out.cell 1 rfl; have x2 := HX1.out.cell 2 rfl; have x3 := HX1.out.cell 3 rfl; have x4 := HX1.out.cell 4 rfl; have x5 := HX1.out.cell 5 rfl; have lx1 := HX1.out.lt))
    | (go_simp; go_at_call 34; ((with_reducible rw [HST.out]); (with_reducible refine Calls.mono (HP.out _ ?_) ?_); (focus ((repeat' (first | (with_reducible exact Up.refl _) | (with_reducible assumption) | (with_reducible refine Up.alloc ?_ _) | (with_reducible refine Up.drew ?_) | (with_reducible refine Up.drewN ?_ _) | (with_reducible refine Up.setCell ?_ ?_ _) | (with_reducible refine Up.call ?_ (by with_reducible assumption)) | go_size)))); rintro e w2 ⟨rfl, hI2, hb2, ho2⟩; have HI2 := Lib.hid hI2; have HB2 := Lib.hid (Below.trans ((show Up w _ by (repeat' (first | (with_reducible exact Up.refl _) | (with_reducible assumption) | (with_reducible refine Up.alloc ?_ _) | (with_reducible refine Up.drew ?_) | (with_reducible refine Up.drewN ?_ _) | (with_reducible refine Up.setCell ?_ ?_ _) | (with_reducible refine Up.call ?_ (by with_reducible assumption)) | go_size))).mono hBw) hb2); have HO2 := Lib.hid (((OK.refl b w).upc (show Up w _ by (repeat' (first | (with_reducible exact Up.refl _) | (with_reducible assumption) | (with_reducible refine Up.alloc ?_ _) | (with_reducible refine Up.drew ?_) | (with_reducible refine Up.drewN ?_ _) | (with_reducible refine Up.setCell ?_ ?_ _) | (with_reducible refine Up.call ?_ (by with_reducible assumption)) | go_size)))).tr ho2); have HX2 := Lib.hid ((BoxAt.up (BoxAt.new w #[.int .i64 9, .int .i64 n, .string ⟨t.toArray⟩, .slice ka kl kc, .slice la ll lc, .slice da 0 dc]) (show Up (w.alloc _) _ by (repeat' (first | (with_reducible exact Up.refl _) | (with_reducible assumption) | (with_reducible refine Up.alloc ?_ _) | (with_reducible refine Up.drew ?_) | (with_reducible refine Up.drewN ?_ _) | (with_reducible refine Up.setCell ?_ ?_ _) | (with_reducible refine Up.call ?_ (by with_reducible assumption)) | go_size)))).kept ho2 (by omega)); have z2 := HB2.out.size; have q52 := HX2.out.cell 5 rfl; have lq2 := HX2.out.lt; have HU2 := Lib.hid (up_below HU0.out HB2.out h0); clear hI2 hb2 ho2)))
  all_goals
    go_wp2_with (first
      | (go_at_call 27; ((with_reducible refine (wStr B b (bs ++ D) [10, 115, 116, 114, 101, 97, 109, 10] _ HI2.out (by omega) (by have := HLIM.out; simp only [List.length_append, List.length_cons, List.length_nil]; omega)).mono ?_); rintro e w3 ⟨rfl, hI3, hb3, ho3⟩; have HI3 := Lib.hid hI3; have HB3 := Lib.hid (HB2.out.trans hb3); have HO3 := Lib.hid (HO2.out.tr ho3); have HX3 := Lib.hid (HX2.out.kept ho3 (by omega)); have z3 := HB3.out.size; have HU3 := Lib.hid (up_below HU0.out HB3.out h0); have q53 := HX3.out.cell 5 rfl; have lq3 := HX3.out.lt; clear hI3 hb3 ho3))
      | (go_at_call 35; ((with_reducible refine (wNil B b (bs ++ D ++ [10, 115, 116, 114, 101, 97, 109, 10]) _ _ d2 _ HI3.out (by omega) (by have := HLIM.out; simp only [List.length_append, List.length_cons, List.length_nil]; omega) (by simp)).mono ?_); rintro e w4 ⟨rfl, hI4, hb4, ho4⟩; have HI4 := Lib.hid hI4; have HB4 := Lib.hid (HB3.out.trans hb4); have HO4 := Lib.hid (HO3.out.tr ho4); have HX4 := Lib.hid (HX3.out.kept ho4 (by omega)); have z4 := HB4.out.size; have HU4 := Lib.hid (up_below HU0.out HB4.out h0); have q54 := HX4.out.cell 5 rfl; have lq4 := HX4.out.lt; clear hI4 hb4 ho4))
      | (go_at_call 27; ((with_reducible refine (wStr B b (bs ++ D ++ [10, 115, 116, 114, 101, 97, 109, 10]) [10, 101, 110, 100, 115, 116, 114, 101, 97, 109] _ HI4.out (by omega) (by have := HLIM.out; simp only [List.length_append, List.length_cons, List.length_nil]; omega)).mono ?_); rintro e w5 ⟨rfl, hI5, hb5, ho5⟩; have HI5 := Lib.hid hI5; have HB5 := Lib.hid (HB4.out.trans hb5); have HO5 := Lib.hid (HO4.out.tr ho5); have HX5 := Lib.hid (HX4.out.kept ho5 (by omega)); have z5 := HB5.out.size; have HU5 := Lib.hid (up_below HU0.out HB5.out h0); have q55 := HX5.out.cell 5 rfl; have lq5 := HX5.out.lt; clear hI5 hb5 ho5)))
    go_returns
    refine ⟨rfl, ?_, HB5.out, HO5.out⟩
    have hd0 : d = [] := List.eq_nil_of_length_eq_zero (by rw [HDN.out])
    rw [hd0]
    have e9 : bs ++ (D ++ ([10, 115, 116, 114, 101, 97, 109, 10] ++ (([] : List UInt8) ++ [10, 101, 110, 100, 115, 116, 114, 101, 97, 109]))) = bs ++ D ++ [10, 115, 116, 114, 101, 97, 109, 10] ++ [10, 101, 110, 100, 115, 116, 114, 101, 97, 109] := by simp
    exact Eq.mp (congrArg (fun z => IsBuf B b (Lib.byteCells z) w5) e9.symm) HI5.out

set_option maxRecDepth 8000 in
set_option maxHeartbeats 4000000 in
theorem write_k9 (n : Int) (t : List UInt8) (ka : Option Addr) (kl kc : Nat) (la : Option Addr) (ll lc : Nat) (da : Option Addr) (dl dc : Nat) (ks : List (List UInt8)) (l : List PO) (d : List UInt8) (f : PO → List UInt8) (w0 : World) (ht : PTab w0) (hk : Sl 1 kcells w0 ka kl kc ks) (hl : Sl 6 PO.cells w0 la ll lc l) (hd : Sl 1 dcells w0 da dl dc d) (hdl : dl ≤ 5000) (hz : 0 < dl) (hkl : kl = ll) (hkb : ∀ s ∈ ks, s.length ≤ 300) (hrec : ∀ c ∈ l, WrC w0 (f c) c.cells.toArray)
    (B b : Nat) (bs : List UInt8) (w : World) (h0 : w0.heap.size ≤ B) (hu : Up w0 w) (hBw : B ≤ w.heap.size) (h : IsBuf B b (Lib.byteCells bs) w) (hlim : bs.length + (dictP f ks l (lenP d.length) ++ ([10, 115, 116, 114, 101, 97, 109, 10] ++ (d ++ [10, 101, 110, 100, 115, 116, 114, 101, 97, 109]))).length ≤ 140737480000000) :
    Calls Tryd.prog 16 #[.pointer (some ⟨b, 0, none⟩), .agg #[.int .i64 9, .int .i64 n, .string ⟨t.toArray⟩, .slice ka kl kc, .slice la ll lc, .slice da dl dc]] w fun e w' => e = .returned (.tuple #[]) ∧ IsBuf B b (Lib.byteCells (bs ++ (dictP f ks l (lenP d.length) ++ ([10, 115, 116, 114, 101, 97, 109, 10] ++ (d ++ [10, 101, 110, 100, 115, 116, 114, 101, 97, 109]))))) w' ∧ Below B w w' ∧ OK b w w' := by
  have hb := Lib.IsBuffer.lt h
  have H := Lib.hid h
  have HU0 := Lib.hid hu
  have d1 := hd.1
  have d2 := hd.2.1
  have HD := Lib.hid hd
  have hdn := hd.2.2.1
  rw [hdn] at hlim ⊢
  obtain ⟨L, hL⟩ : ∃ L, intL (dl : Int) = L := ⟨_, rfl⟩
  have HC : Hid (∀ W, Up w W → Calls Tryd.prog 29 #[.int .i64 (dl : Int)] W fun e w' => e = .returned (.string ⟨L.toArray⟩) ∧ Up W w') := Lib.hid (fun W hW => by rw [← hL]; exact itoa_calls (dl : Int) (by omega) (by omega) W (ht.up (hu.call hW)))
  have ll9 : L.length ≤ 101 := by rw [← hL]; exact intL_len (dl : Int) (by omega) (by omega)
  have nl9 : ¬ (9223372036854775807 < 9 + L.length) := by omega
  obtain ⟨M, hM⟩ : ∃ M, lenP dl = M := ⟨_, rfl⟩
  have HM := Lib.hid (show [32, 47, 76, 101, 110, 103, 116, 104, 32] ++ L = M by rw [← hM, ← hL]; rfl)
  have HST : Hid ((⟨#[32, 47, 76, 101, 110, 103, 116, 104, 32]⟩ : ByteArray) ++ ⟨L.toArray⟩ = ⟨M.toArray⟩) := Lib.hid (by rw [← HM.out]; exact str_app [32, 47, 76, 101, 110, 103, 116, 104, 32] L)
  have mo9 : M.length ≤ 1000 := by rw [← HM.out]; simp; omega
  rw [hM] at hlim ⊢
  obtain ⟨D, hD⟩ : ∃ D, dictP f ks l M = D := ⟨_, rfl⟩
  have HLIM := Lib.hid (show bs.length + D.length + d.length + 18 ≤ 140737480000000 by rw [hD] at hlim; simp only [List.length_append, List.length_cons, List.length_nil] at hlim; omega)
  have HP : Hid (∀ W, Up w W → Calls Tryd.prog 34 #[.pointer (some ⟨b, 0, none⟩), .agg #[.int .i64 9, .int .i64 n, .string ⟨t.toArray⟩, .slice ka kl kc, .slice la ll lc, .slice da dl dc], .string ⟨M.toArray⟩] W fun e w' => e = .returned (.tuple #[]) ∧ IsBuf B b (Lib.byteCells (bs ++ D)) w' ∧ Below B W w' ∧ OK b W w') := Lib.hid (fun W hW => by rw [← hD]; exact pairs_calls f 9 n t ka kl kc ks la ll lc l da dl dc M mo9 w0 hk hl hkl hkb hrec B b bs W h0 (hu.call hW) (Nat.le_trans hBw hW.size) (Lib.IsBuffer.old h hW) (by have := HLIM.out; rw [hD]; omega))
  rw [hD]
  obtain ⟨g, o, rfl, hg, hdc⟩ := hd.2.2.2.2 hz
  have HDD : Hid (∀ W, Up w0 W → ∀ (j : Nat) (x : UInt8), d[j]? = some x → W.cell? ⟨g, o + j, none⟩ = some (.int .u8 (x.toNat : Int))) := Lib.hid (fun W hW j x hx => (hW.cells.1 g _ hg).trans (by have := hdc j x 0 _ hx rfl; simpa using this))
  have HDN := Lib.hid hdn
  clear hdc h hk hl hkl hkb hrec hu hlim hd ht hL hM hD hdn
  go_enter Tryd.func16, Tryd.ntmps16
  go_wp2
  go_region_law (first
    | (go_simp; go_at_call 29; ((with_reducible refine Calls.mono (HC.out _ ?_) ?_); (focus ((repeat' (first | (with_reducible exact Up.refl _) | (with_reducible assumption) | (with_reducible refine Up.alloc ?_ _) | (with_reducible refine Up.drew ?_) | (with_reducible refine Up.drewN ?_ _) | (with_reducible refine Up.setCell ?_ ?_ _) | (with_reducible refine Up.call ?_ (by with_reducible assumption)) | go_size)))); rintro e w1 ⟨rfl, hu1⟩; have HX1 := Lib.hid (BoxAt.up (BoxAt.new w #[.int .i64 9, .int .i64 n, .string ⟨t.toArray⟩, .slice ka kl kc, .slice la ll lc, .slice (some ⟨g, o, none⟩) dl dc]) (show Up (w.alloc _) w1 by (repeat' (first | (with_reducible exact Up.refl _) | (with_reducible assumption) | (with_reducible refine Up.alloc ?_ _) | (with_reducible refine Up.drew ?_) | (with_reducible refine Up.drewN ?_ _) | (with_reducible refine Up.setCell ?_ ?_ _) | (with_reducible refine Up.call ?_ (by with_reducible assumption)) | go_size)))); have x0 := HX1.out.cell 0 rfl; have x1 := HX1.out.cell 1 rfl; have x2 := HX1.out.cell 2 rfl; have x3 := HX1.out.cell 3 rfl; have x4 := HX1.out.cell 4 rfl; have x5 := HX1.out.cell 5 rfl; have lx1 := HX1.out.lt))
    | (go_simp; go_at_call 34; ((with_reducible rw [HST.out]); (with_reducible refine Calls.mono (HP.out _ ?_) ?_); (focus ((repeat' (first | (with_reducible exact Up.refl _) | (with_reducible assumption) | (with_reducible refine Up.alloc ?_ _) | (with_reducible refine Up.drew ?_) | (with_reducible refine Up.drewN ?_ _) | (with_reducible refine Up.setCell ?_ ?_ _) | (with_reducible refine Up.call ?_ (by with_reducible assumption)) | go_size)))); rintro e w2 ⟨rfl, hI2, hb2, ho2⟩; have HI2 := Lib.hid hI2; have HB2 := Lib.hid (Below.trans ((show Up w _ by (repeat' (first | (with_reducible exact Up.refl _) | (with_reducible assumption) | (with_reducible refine Up.alloc ?_ _) | (with_reducible refine Up.drew ?_) | (with_reducible refine Up.drewN ?_ _) | (with_reducible refine Up.setCell ?_ ?_ _) | (with_reducible refine Up.call ?_ (by with_reducible assumption)) | go_size))).mono hBw) hb2); have HO2 := Lib.hid (((OK.refl b w).upc (show Up w _ by (repeat' (first | (with_reducible exact Up.refl _) | (with_reducible assumption) | (with_reducible refine Up.alloc ?_ _) | (with_reducible refine Up.drew ?_) | (with_reducible refine Up.drewN ?_ _) | (with_reducible refine Up.setCell ?_ ?_ _) | (with_reducible refine Up.call ?_ (by with_reducible assumption)) | go_size)))).tr ho2); have HX2 := Lib.hid ((BoxAt.up (BoxAt.new w #[.int .i64 9, .int .i64 n, .string ⟨t.toArray⟩, .slice ka kl kc, .slice la ll lc, .slice (some ⟨g, o, none⟩) dl dc]) (show Up (w.alloc _) _ by (repeat' (first | (with_reducible exact Up.refl _) | (with_reducible assumption) | (with_reducible refine Up.alloc ?_ _) | (with_reducible refine Up.drew ?_) | (with_reducible refine Up.drewN ?_ _) | (with_reducible refine Up.setCell ?_ ?_ _) | (with_reducible refine Up.call ?_ (by with_reducible assumption)) | go_size)))).kept ho2 (by omega)); have z2 := HB2.out.size; have q52 := HX2.out.cell 5 rfl; have lq2 := HX2.out.lt; have HU2 := Lib.hid (up_below HU0.out HB2.out h0); clear hI2 hb2 ho2)))
  all_goals
    go_wp2_with (first
      | (go_at_call 27; ((with_reducible refine (wStr B b (bs ++ D) [10, 115, 116, 114, 101, 97, 109, 10] _ HI2.out (by omega) (by have := HLIM.out; simp only [List.length_append, List.length_cons, List.length_nil]; omega)).mono ?_); rintro e w3 ⟨rfl, hI3, hb3, ho3⟩; have HI3 := Lib.hid hI3; have HB3 := Lib.hid (HB2.out.trans hb3); have HO3 := Lib.hid (HO2.out.tr ho3); have HX3 := Lib.hid (HX2.out.kept ho3 (by omega)); have z3 := HB3.out.size; have HU3 := Lib.hid (up_below HU0.out HB3.out h0); have q53 := HX3.out.cell 5 rfl; have lq3 := HX3.out.lt; clear hI3 hb3 ho3))
      | (go_at_call 35; ((with_reducible refine (wBytes B b (bs ++ D ++ [10, 115, 116, 114, 101, 97, 109, 10]) g o dl dc d _ HI3.out (by omega) HDN.out (by omega) (HDD.out _ HU3.out) (by have := HLIM.out; have := HDN.out; simp only [List.length_append, List.length_cons, List.length_nil]; omega)).mono ?_); rintro e w4 ⟨rfl, hI4, hb4, ho4⟩; have HI4 := Lib.hid hI4; have HB4 := Lib.hid (HB3.out.trans hb4); have HO4 := Lib.hid (HO3.out.tr ho4); have HX4 := Lib.hid (HX3.out.kept ho4 (by omega)); have z4 := HB4.out.size; have HU4 := Lib.hid (up_below HU0.out HB4.out h0); have q54 := HX4.out.cell 5 rfl; have lq4 := HX4.out.lt; clear hI4 hb4 ho4))
      | (go_at_call 27; ((with_reducible refine (wStr B b (bs ++ D ++ [10, 115, 116, 114, 101, 97, 109, 10] ++ d) [10, 101, 110, 100, 115, 116, 114, 101, 97, 109] _ HI4.out (by omega) (by have := HLIM.out; simp only [List.length_append, List.length_cons, List.length_nil]; omega)).mono ?_); rintro e w5 ⟨rfl, hI5, hb5, ho5⟩; have HI5 := Lib.hid hI5; have HB5 := Lib.hid (HB4.out.trans hb5); have HO5 := Lib.hid (HO4.out.tr ho5); have HX5 := Lib.hid (HX4.out.kept ho5 (by omega)); have z5 := HB5.out.size; have HU5 := Lib.hid (up_below HU0.out HB5.out h0); have q55 := HX5.out.cell 5 rfl; have lq5 := HX5.out.lt; clear hI5 hb5 ho5)))
    go_returns
    refine ⟨rfl, ?_, HB5.out, HO5.out⟩
    have e9 : bs ++ (D ++ ([10, 115, 116, 114, 101, 97, 109, 10] ++ (d ++ [10, 101, 110, 100, 115, 116, 114, 101, 97, 109]))) = bs ++ D ++ [10, 115, 116, 114, 101, 97, 109, 10] ++ d ++ [10, 101, 110, 100, 115, 116, 114, 101, 97, 109] := by simp
    exact Eq.mp (congrArg (fun z => IsBuf B b (Lib.byteCells z) w5) e9.symm) HI5.out

end Go.Proofs.YtaafelkdhahaoaaDoor.Pob
