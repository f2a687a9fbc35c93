/- Package pobj: sound of any object. Its condition: an object that is not too large. -/
import Derived.Test.YtaafelkdhahaoaaDoorPobS
namespace Go.Proofs.YtaafelkdhahaoaaDoor.Pob
open Go.ChangeShapes Go.WideShapes Go.RowKit Go.Shelf
set_option linter.unusedVariables false
set_option linter.unusedSimpArgs false

def lenKey : List UInt8 := [76, 101, 110, 103, 116, 104]
/-- an object without parts is sound -/
def leafR : PO → Bool
  | .mk k n t ka kl kc ks la ll lc l da dl dc d =>
    if k = 0 then bareC n t kl ll dl false false false false false else
    if k = 1 then bareC n t kl ll dl true false false false false && (decide (n = 0) || decide (n = 1)) else
    if k = 2 then bareC n t kl ll dl true false false false false && decide (-2147483648 ≤ n) && decide (n ≤ 2147483647) else
    if k = 3 then bareC n t kl ll dl true false false false false && (decide (-2147483648 ≤ n) && decide (n ≤ 2147483647)) else
    if k = 4 then bareC n t kl ll dl false true false false false && namedB t else
    if k = 5 then bareC n t kl ll dl false true false false false && decide (t.length ≤ 65535) else
    if k = 8 then bareC n t kl ll dl true false false false false && decide (1 ≤ n) && decide (n ≤ 4096) else false
/-- an object with parts is, but for them -/
def nodeR (s : Bool) : PO → Bool
  | .mk k n t ka kl kc ks la ll lc l da dl dc d =>
    if k = 6 then bareC n t kl ll dl false false false true false else
    if k = 7 then bareC n t kl ll dl false false true true false && decide (kl = ll) && distR ks else
    if k = 9 then s && (bareC n t kl ll dl false false true true true && decide (kl = ll) && distR ks && !ks.contains lenKey) else false
/-- an object is sound, so deep at most; s: a stream may be -/
def sndR : Nat → Bool → PO → Bool
  | 0, s, o => leafR o
  | m + 1, s, o => leafR o || (nodeR s o && o.l.all (sndR m false))
theorem leaf9 {o : PO} (h : o.k = 9) : leafR o = false := by
  obtain ⟨k, n, t, ka, kl, kc, ks, la, ll, lc, l, da, dl, dc, d⟩ := o
  obtain rfl : k = 9 := h
  rfl
theorem leaf_node {o : PO} (h : o.k = 6 ∨ o.k = 7 ∨ o.k = 9) : leafR o = false := by
  obtain ⟨k, n, t, ka, kl, kc, ks, la, ll, lc, l, da, dl, dc, d⟩ := o
  have h2 : k = 6 ∨ k = 7 ∨ k = 9 := h
  rcases h2 with rfl | rfl | rfl <;> rfl
theorem node_leaf {o : PO} {s : Bool} (h : ¬ (o.k = 6 ∨ o.k = 7 ∨ o.k = 9)) : nodeR s o = false := by
  obtain ⟨k, n, t, ka, kl, kc, ks, la, ll, lc, l, da, dl, dc, d⟩ := o
  have h2 : ¬ (k = 6 ∨ k = 7 ∨ k = 9) := h
  simp only [not_or] at h2
  simp only [nodeR, if_neg h2.1, if_neg h2.2.1, if_neg h2.2.2]
theorem node_s {o : PO} {s : Bool} (h : o.k ≠ 9) : nodeR s o = nodeR true o := by
  obtain ⟨k, n, t, ka, kl, kc, ks, la, ll, lc, l, da, dl, dc, d⟩ := o
  have h2 : k ≠ 9 := h
  simp only [nodeR, if_neg h2]
theorem node_f9 {o : PO} (h : o.k = 9) : nodeR false o = false := by
  obtain ⟨k, n, t, ka, kl, kc, ks, la, ll, lc, l, da, dl, dc, d⟩ := o
  obtain rfl : k = 9 := h
  rfl
theorem snd_false (m : Nat) (c : PO) : sndR m false c = (sndR m true c && decide (c.k ≠ 9)) := by
  by_cases h : c.k = 9
  · cases m with
    | zero => simp [sndR, leaf9 h, h]
    | succ m => simp [sndR, leaf9 h, h, node_f9 h]
  · cases m with
    | zero => simp [sndR, h]
    | succ m => simp [sndR, h, node_s (s := false) h]
theorem fits_pob (n : Int) (r : Bool) (hr : (decide (-2147483648 ≤ n) && decide (n ≤ 2147483647)) = r) (w : World) : Calls Tryd.prog 39 #[.int .i64 n] w fun e w' => e = .returned (.bool r) ∧ w = w' := by
  by_cases h1 : -2147483648 ≤ n
  · by_cases h2 : n ≤ 2147483647
    · obtain rfl : r = true := by rw [← hr]; simp [h1, h2]
      clear hr
      go_enter Tryd.func39, Tryd.ntmps39
      go_wp2
      go_ret
      exact ⟨rfl, rfl⟩
    · obtain rfl : r = false := by rw [← hr]; simp [h2]
      clear hr
      have d2 : decide (n ≤ 2147483647) = false := decide_eq_false h2
      clear h2
      go_enter Tryd.func39, Tryd.ntmps39
      go_wp2
      go_ret
      exact ⟨rfl, rfl⟩
  · obtain rfl : r = false := by rw [← hr]; simp [h1]
    clear hr
    have d2 : decide (-2147483648 ≤ n) = false := decide_eq_false h1
    clear h1
    go_enter Tryd.func39, Tryd.ntmps39
    go_wp2
    go_ret
    exact ⟨rfl, rfl⟩
set_option maxRecDepth 8000 in
set_option maxHeartbeats 2000000 in
theorem sound_k0 (n : Int) (t : List UInt8) (ka : Option Addr) (kl kc : Nat) (la : Option Addr) (ll lc : Nat) (da : Option Addr) (dl dc : Nat) (q : Int) (r : Bool) (hr : (bareC n t kl ll dl false false false false false) = r) (w : World) :
    Calls Tryd.prog 19 #[.agg #[.int .i64 0, .int .i64 n, .string ⟨t.toArray⟩, .slice ka kl kc, .slice la ll lc, .slice da dl dc], .int .i64 q] w fun e w' => e = .returned (.bool r) ∧ Up w w' := by
  obtain ⟨v, hv⟩ : ∃ v, bareC n t kl ll dl false false false false false = v := ⟨_, rfl⟩
  have HB := Lib.hid hv
  rw [hv] at hr
  have HR := Lib.hid hr
  clear hr hv
  cases v
  · obtain rfl : r = false := by rw [← HR.out]; try simp
    go_enter Tryd.func19, Tryd.ntmps19
    go_wp2_with (go_at_call 38; ((with_reducible refine (bare_FFFFF 0 n t ka kl kc la ll lc da dl dc _ HB.out _).mono ?_); rintro e w1 ⟨rfl, hu1⟩; have k_w1 := hu1.cells.1; have f_w1 := hu1.cells.2; have z_w1 := hu1.size; (try simp at z_w1); have l0_w1 : w.heap.size < w1.heap.size := (by omega)))
    go_ret
    exact ⟨rfl, by (repeat' (first | (with_reducible exact Up.refl _) | (with_reducible assumption) | (with_reducible refine Up.alloc ?_ _) | (with_reducible refine Up.drew ?_) | (with_reducible refine Up.drewN ?_ _) | (with_reducible refine Up.setCell ?_ ?_ _) | (with_reducible refine Up.call ?_ (by with_reducible assumption)) | go_size))⟩
  · obtain rfl : r = true := by rw [← HR.out]; try simp []
    go_enter Tryd.func19, Tryd.ntmps19
    go_wp2_with (go_at_call 38; ((with_reducible refine (bare_FFFFF 0 n t ka kl kc la ll lc da dl dc _ HB.out _).mono ?_); rintro e w1 ⟨rfl, hu1⟩; have k_w1 := hu1.cells.1; have f_w1 := hu1.cells.2; have z_w1 := hu1.size; (try simp at z_w1); have l0_w1 : w.heap.size < w1.heap.size := (by omega)))
    go_ret
    exact ⟨rfl, by (repeat' (first | (with_reducible exact Up.refl _) | (with_reducible assumption) | (with_reducible refine Up.alloc ?_ _) | (with_reducible refine Up.drew ?_) | (with_reducible refine Up.drewN ?_ _) | (with_reducible refine Up.setCell ?_ ?_ _) | (with_reducible refine Up.call ?_ (by with_reducible assumption)) | go_size))⟩

set_option maxRecDepth 8000 in
set_option maxHeartbeats 2000000 in
theorem sound_k1 (n : Int) (t : List UInt8) (ka : Option Addr) (kl kc : Nat) (la : Option Addr) (ll lc : Nat) (da : Option Addr) (dl dc : Nat) (q : Int) (r : Bool) (hr : (bareC n t kl ll dl true false false false false && (decide (n = 0) || decide (n = 1))) = r) (w : World) :
    Calls Tryd.prog 19 #[.agg #[.int .i64 1, .int .i64 n, .string ⟨t.toArray⟩, .slice ka kl kc, .slice la ll lc, .slice da dl dc], .int .i64 q] w fun e w' => e = .returned (.bool r) ∧ Up w w' := by
  obtain ⟨v, hv⟩ : ∃ v, bareC n t kl ll dl true false false false false = v := ⟨_, rfl⟩
  have HB := Lib.hid hv
  rw [hv] at hr
  have HR := Lib.hid hr
  clear hr hv
  cases v
  · obtain rfl : r = false := by rw [← HR.out]; try simp
    go_enter Tryd.func19, Tryd.ntmps19
    go_wp2_with (go_at_call 38; ((with_reducible refine (bare_TFFFF 1 _ t ka kl kc la ll lc da dl dc _ HB.out _).mono ?_); rintro e w1 ⟨rfl, hu1⟩; have k_w1 := hu1.cells.1; have f_w1 := hu1.cells.2; have z_w1 := hu1.size; (try simp at z_w1); have l0_w1 : w.heap.size < w1.heap.size := (by omega)))
    go_ret
    exact ⟨rfl, by (repeat' (first | (with_reducible exact Up.refl _) | (with_reducible assumption) | (with_reducible refine Up.alloc ?_ _) | (with_reducible refine Up.drew ?_) | (with_reducible refine Up.drewN ?_ _) | (with_reducible refine Up.setCell ?_ ?_ _) | (with_reducible refine Up.call ?_ (by with_reducible assumption)) | go_size))⟩
  · by_cases h0 : n = 0
    · subst h0
      obtain rfl : r = true := by rw [← HR.out]; rfl
      go_enter Tryd.func19, Tryd.ntmps19
      go_wp2_with (go_at_call 38; ((with_reducible refine (bare_TFFFF 1 _ t ka kl kc la ll lc da dl dc _ HB.out _).mono ?_); rintro e w1 ⟨rfl, hu1⟩; have k_w1 := hu1.cells.1; have f_w1 := hu1.cells.2; have z_w1 := hu1.size; (try simp at z_w1); have l0_w1 : w.heap.size < w1.heap.size := (by omega)))
      go_ret
      exact ⟨rfl, by (repeat' (first | (with_reducible exact Up.refl _) | (with_reducible assumption) | (with_reducible refine Up.alloc ?_ _) | (with_reducible refine Up.drew ?_) | (with_reducible refine Up.drewN ?_ _) | (with_reducible refine Up.setCell ?_ ?_ _) | (with_reducible refine Up.call ?_ (by with_reducible assumption)) | go_size))⟩
    by_cases h1 : n = 1
    · subst h1
      obtain rfl : r = true := by rw [← HR.out]; rfl
      go_enter Tryd.func19, Tryd.ntmps19
      go_wp2_with (go_at_call 38; ((with_reducible refine (bare_TFFFF 1 _ t ka kl kc la ll lc da dl dc _ HB.out _).mono ?_); rintro e w1 ⟨rfl, hu1⟩; have k_w1 := hu1.cells.1; have f_w1 := hu1.cells.2; have z_w1 := hu1.size; (try simp at z_w1); have l0_w1 : w.heap.size < w1.heap.size := (by omega)))
      go_ret
      exact ⟨rfl, by (repeat' (first | (with_reducible exact Up.refl _) | (with_reducible assumption) | (with_reducible refine Up.alloc ?_ _) | (with_reducible refine Up.drew ?_) | (with_reducible refine Up.drewN ?_ _) | (with_reducible refine Up.setCell ?_ ?_ _) | (with_reducible refine Up.call ?_ (by with_reducible assumption)) | go_size))⟩
    obtain rfl : r = false := by rw [← HR.out]; simp [h0, h1]
    have d0 : ((n : Int) == 0) = false := by simp [h0]
    have d1 : ((n : Int) == 1) = false := by simp [h1]
    clear h0 h1
    go_enter Tryd.func19, Tryd.ntmps19
    go_wp2_with (go_at_call 38; ((with_reducible refine (bare_TFFFF 1 _ t ka kl kc la ll lc da dl dc _ HB.out _).mono ?_); rintro e w1 ⟨rfl, hu1⟩; have k_w1 := hu1.cells.1; have f_w1 := hu1.cells.2; have z_w1 := hu1.size; (try simp at z_w1); have l0_w1 : w.heap.size < w1.heap.size := (by omega)))
    go_ret
    exact ⟨rfl, by (repeat' (first | (with_reducible exact Up.refl _) | (with_reducible assumption) | (with_reducible refine Up.alloc ?_ _) | (with_reducible refine Up.drew ?_) | (with_reducible refine Up.drewN ?_ _) | (with_reducible refine Up.setCell ?_ ?_ _) | (with_reducible refine Up.call ?_ (by with_reducible assumption)) | go_size))⟩

set_option maxRecDepth 8000 in
set_option maxHeartbeats 2000000 in
theorem sound_k2 (n : Int) (t : List UInt8) (ka : Option Addr) (kl kc : Nat) (la : Option Addr) (ll lc : Nat) (da : Option Addr) (dl dc : Nat) (q : Int) (r : Bool) (hr : (bareC n t kl ll dl true false false false false && decide (-2147483648 ≤ n) && decide (n ≤ 2147483647)) = r) (w : World) :
    Calls Tryd.prog 19 #[.agg #[.int .i64 2, .int .i64 n, .string ⟨t.toArray⟩, .slice ka kl kc, .slice la ll lc, .slice da dl dc], .int .i64 q] w fun e w' => e = .returned (.bool r) ∧ Up w w' := by
  obtain ⟨v, hv⟩ : ∃ v, bareC n t kl ll dl true false false false false = v := ⟨_, rfl⟩
  have HB := Lib.hid hv
  rw [hv] at hr
  have HR := Lib.hid hr
  clear hr hv
  cases v
  · obtain rfl : r = false := by rw [← HR.out]; try simp
    go_enter Tryd.func19, Tryd.ntmps19
    go_wp2_with (go_at_call 38; ((with_reducible refine (bare_TFFFF 2 n t ka kl kc la ll lc da dl dc _ HB.out _).mono ?_); rintro e w1 ⟨rfl, hu1⟩; have k_w1 := hu1.cells.1; have f_w1 := hu1.cells.2; have z_w1 := hu1.size; (try simp at z_w1); have l0_w1 : w.heap.size < w1.heap.size := (by omega)))
    go_ret
    exact ⟨rfl, by (repeat' (first | (with_reducible exact Up.refl _) | (with_reducible assumption) | (with_reducible refine Up.alloc ?_ _) | (with_reducible refine Up.drew ?_) | (with_reducible refine Up.drewN ?_ _) | (with_reducible refine Up.setCell ?_ ?_ _) | (with_reducible refine Up.call ?_ (by with_reducible assumption)) | go_size))⟩
  · by_cases h0 : -2147483648 ≤ n
    rotate_left
    · obtain rfl : r = false := by rw [← HR.out]; simp [h0]
      have d0 : decide (-2147483648 ≤ n) = false := decide_eq_false (by omega)
      clear h0
      go_enter Tryd.func19, Tryd.ntmps19
      go_wp2_with (go_at_call 38; ((with_reducible refine (bare_TFFFF 2 n t ka kl kc la ll lc da dl dc _ HB.out _).mono ?_); rintro e w1 ⟨rfl, hu1⟩; have k_w1 := hu1.cells.1; have f_w1 := hu1.cells.2; have z_w1 := hu1.size; (try simp at z_w1); have l0_w1 : w.heap.size < w1.heap.size := (by omega)))
      go_ret
      exact ⟨rfl, by (repeat' (first | (with_reducible exact Up.refl _) | (with_reducible assumption) | (with_reducible refine Up.alloc ?_ _) | (with_reducible refine Up.drew ?_) | (with_reducible refine Up.drewN ?_ _) | (with_reducible refine Up.setCell ?_ ?_ _) | (with_reducible refine Up.call ?_ (by with_reducible assumption)) | go_size))⟩
    have d0 : decide (-2147483648 ≤ n) = true := decide_eq_true (by omega)
    by_cases h1 : n ≤ 2147483647
    rotate_left
    · obtain rfl : r = false := by rw [← HR.out]; simp [h0, h1]
      have d1 : decide (n ≤ 2147483647) = false := decide_eq_false (by omega)
      clear h1
      go_enter Tryd.func19, Tryd.ntmps19
      go_wp2_with (go_at_call 38; ((with_reducible refine (bare_TFFFF 2 n t ka kl kc la ll lc da dl dc _ HB.out _).mono ?_); rintro e w1 ⟨rfl, hu1⟩; have k_w1 := hu1.cells.1; have f_w1 := hu1.cells.2; have z_w1 := hu1.size; (try simp at z_w1); have l0_w1 : w.heap.size < w1.heap.size := (by omega)))
      go_ret
      exact ⟨rfl, by (repeat' (first | (with_reducible exact Up.refl _) | (with_reducible assumption) | (with_reducible refine Up.alloc ?_ _) | (with_reducible refine Up.drew ?_) | (with_reducible refine Up.drewN ?_ _) | (with_reducible refine Up.setCell ?_ ?_ _) | (with_reducible refine Up.call ?_ (by with_reducible assumption)) | go_size))⟩
    have d1 : decide (n ≤ 2147483647) = true := decide_eq_true (by omega)
    obtain rfl : r = true := by rw [← HR.out]; try simp [h0, h1]
    clear h0 h1
    go_enter Tryd.func19, Tryd.ntmps19
    go_wp2_with (go_at_call 38; ((with_reducible refine (bare_TFFFF 2 n t ka kl kc la ll lc da dl dc _ HB.out _).mono ?_); rintro e w1 ⟨rfl, hu1⟩; have k_w1 := hu1.cells.1; have f_w1 := hu1.cells.2; have z_w1 := hu1.size; (try simp at z_w1); have l0_w1 : w.heap.size < w1.heap.size := (by omega)))
    go_ret
    exact ⟨rfl, by (repeat' (first | (with_reducible exact Up.refl _) | (with_reducible assumption) | (with_reducible refine Up.alloc ?_ _) | (with_reducible refine Up.drew ?_) | (with_reducible refine Up.drewN ?_ _) | (with_reducible refine Up.setCell ?_ ?_ _) | (with_reducible refine Up.call ?_ (by with_reducible assumption)) | go_size))⟩

set_option maxRecDepth 8000 in
set_option maxHeartbeats 2000000 in
theorem sound_k3 (n : Int) (t : List UInt8) (ka : Option Addr) (kl kc : Nat) (la : Option Addr) (ll lc : Nat) (da : Option Addr) (dl dc : Nat) (q : Int) (r : Bool) (hr : (bareC n t kl ll dl true false false false false && (decide (-2147483648 ≤ n) && decide (n ≤ 2147483647))) = r) (w : World) :
    Calls Tryd.prog 19 #[.agg #[.int .i64 3, .int .i64 n, .string ⟨t.toArray⟩, .slice ka kl kc, .slice la ll lc, .slice da dl dc], .int .i64 q] w fun e w' => e = .returned (.bool r) ∧ Up w w' := by
  obtain ⟨v, hv⟩ : ∃ v, bareC n t kl ll dl true false false false false = v := ⟨_, rfl⟩
  have HB := Lib.hid hv
  rw [hv] at hr
  have HR := Lib.hid hr
  clear hr hv
  cases v
  · obtain rfl : r = false := by rw [← HR.out]; try simp
    go_enter Tryd.func19, Tryd.ntmps19
    go_wp2_with (go_at_call 38; ((with_reducible refine (bare_TFFFF 3 n t ka kl kc la ll lc da dl dc _ HB.out _).mono ?_); rintro e w1 ⟨rfl, hu1⟩; have k_w1 := hu1.cells.1; have f_w1 := hu1.cells.2; have z_w1 := hu1.size; (try simp at z_w1); have l0_w1 : w.heap.size < w1.heap.size := (by omega)))
    go_ret
    exact ⟨rfl, by (repeat' (first | (with_reducible exact Up.refl _) | (with_reducible assumption) | (with_reducible refine Up.alloc ?_ _) | (with_reducible refine Up.drew ?_) | (with_reducible refine Up.drewN ?_ _) | (with_reducible refine Up.setCell ?_ ?_ _) | (with_reducible refine Up.call ?_ (by with_reducible assumption)) | go_size))⟩
  · obtain ⟨u, hu⟩ : ∃ u, (decide (-2147483648 ≤ n) && decide (n ≤ 2147483647)) = u := ⟨_, rfl⟩
    have HQ1 := Lib.hid hu
    rw [hu] at HR
    clear hu
    obtain rfl : u = r := by rw [← HR.out]; simp
    go_enter Tryd.func19, Tryd.ntmps19
    go_wp2_with (first | (go_at_call 38; ((with_reducible refine (bare_TFFFF 3 n t ka kl kc la ll lc da dl dc _ HB.out _).mono ?_); rintro e w1 ⟨rfl, hu1⟩; have k_w1 := hu1.cells.1; have f_w1 := hu1.cells.2; have z_w1 := hu1.size; (try simp at z_w1); have l0_w1 : w.heap.size < w1.heap.size := (by omega))) | (go_at_call 39; ((with_reducible refine (fits_pob n _ HQ1.out _).mono ?_); rintro e w2 ⟨rfl, rfl⟩)))
    go_ret
    exact ⟨rfl, by (repeat' (first | (with_reducible exact Up.refl _) | (with_reducible assumption) | (with_reducible refine Up.alloc ?_ _) | (with_reducible refine Up.drew ?_) | (with_reducible refine Up.drewN ?_ _) | (with_reducible refine Up.setCell ?_ ?_ _) | (with_reducible refine Up.call ?_ (by with_reducible assumption)) | go_size))⟩

set_option maxRecDepth 8000 in
set_option maxHeartbeats 2000000 in
theorem sound_k4 (n : Int) (t : List UInt8) (ka : Option Addr) (kl kc : Nat) (la : Option Addr) (ll lc : Nat) (da : Option Addr) (dl dc : Nat) (q : Int) (r : Bool) (hr : (bareC n t kl ll dl false true false false false && namedB t) = r) (w : World) :
    Calls Tryd.prog 19 #[.agg #[.int .i64 4, .int .i64 n, .string ⟨t.toArray⟩, .slice ka kl kc, .slice la ll lc, .slice da dl dc], .int .i64 q] w fun e w' => e = .returned (.bool r) ∧ Up w w' := by
  obtain ⟨v, hv⟩ : ∃ v, bareC n t kl ll dl false true false false false = v := ⟨_, rfl⟩
  have HB := Lib.hid hv
  rw [hv] at hr
  have HR := Lib.hid hr
  clear hr hv
  cases v
  · obtain rfl : r = false := by rw [← HR.out]; try simp
    go_enter Tryd.func19, Tryd.ntmps19
    go_wp2_with (go_at_call 38; ((with_reducible refine (bare_FTFFF 4 n t ka kl kc la ll lc da dl dc _ HB.out _).mono ?_); rintro e w1 ⟨rfl, hu1⟩; have k_w1 := hu1.cells.1; have f_w1 := hu1.cells.2; have z_w1 := hu1.size; (try simp at z_w1); have l0_w1 : w.heap.size < w1.heap.size := (by omega)))
    go_ret
    exact ⟨rfl, by (repeat' (first | (with_reducible exact Up.refl _) | (with_reducible assumption) | (with_reducible refine Up.alloc ?_ _) | (with_reducible refine Up.drew ?_) | (with_reducible refine Up.drewN ?_ _) | (with_reducible refine Up.setCell ?_ ?_ _) | (with_reducible refine Up.call ?_ (by with_reducible assumption)) | go_size))⟩
  · obtain ⟨u, hu⟩ : ∃ u, namedB t = u := ⟨_, rfl⟩
    have HQ1 := Lib.hid hu
    rw [hu] at HR
    clear hu
    obtain rfl : u = r := by rw [← HR.out]; simp
    go_enter Tryd.func19, Tryd.ntmps19
    go_wp2_with (first | (go_at_call 38; ((with_reducible refine (bare_FTFFF 4 n t ka kl kc la ll lc da dl dc _ HB.out _).mono ?_); rintro e w1 ⟨rfl, hu1⟩; have k_w1 := hu1.cells.1; have f_w1 := hu1.cells.2; have z_w1 := hu1.size; (try simp at z_w1); have l0_w1 : w.heap.size < w1.heap.size := (by omega))) | (go_at_call 40; ((with_reducible refine (named_calls t _ HQ1.out _).mono ?_); rintro e w2 ⟨rfl, rfl⟩)))
    go_ret
    exact ⟨rfl, by (repeat' (first | (with_reducible exact Up.refl _) | (with_reducible assumption) | (with_reducible refine Up.alloc ?_ _) | (with_reducible refine Up.drew ?_) | (with_reducible refine Up.drewN ?_ _) | (with_reducible refine Up.setCell ?_ ?_ _) | (with_reducible refine Up.call ?_ (by with_reducible assumption)) | go_size))⟩

set_option maxRecDepth 8000 in
set_option maxHeartbeats 2000000 in
theorem sound_k5 (n : Int) (t : List UInt8) (ka : Option Addr) (kl kc : Nat) (la : Option Addr) (ll lc : Nat) (da : Option Addr) (dl dc : Nat) (q : Int) (r : Bool) (hr : (bareC n t kl ll dl false true false false false && decide (t.length ≤ 65535)) = r) (w : World) :
    Calls Tryd.prog 19 #[.agg #[.int .i64 5, .int .i64 n, .string ⟨t.toArray⟩, .slice ka kl kc, .slice la ll lc, .slice da dl dc], .int .i64 q] w fun e w' => e = .returned (.bool r) ∧ Up w w' := by
  obtain ⟨v, hv⟩ : ∃ v, bareC n t kl ll dl false true false false false = v := ⟨_, rfl⟩
  have HB := Lib.hid hv
  rw [hv] at hr
  have HR := Lib.hid hr
  clear hr hv
  cases v
  · obtain rfl : r = false := by rw [← HR.out]; try simp
    go_enter Tryd.func19, Tryd.ntmps19
    go_wp2_with (go_at_call 38; ((with_reducible refine (bare_FTFFF 5 n t ka kl kc la ll lc da dl dc _ HB.out _).mono ?_); rintro e w1 ⟨rfl, hu1⟩; have k_w1 := hu1.cells.1; have f_w1 := hu1.cells.2; have z_w1 := hu1.size; (try simp at z_w1); have l0_w1 : w.heap.size < w1.heap.size := (by omega)))
    go_ret
    exact ⟨rfl, by (repeat' (first | (with_reducible exact Up.refl _) | (with_reducible assumption) | (with_reducible refine Up.alloc ?_ _) | (with_reducible refine Up.drew ?_) | (with_reducible refine Up.drewN ?_ _) | (with_reducible refine Up.setCell ?_ ?_ _) | (with_reducible refine Up.call ?_ (by with_reducible assumption)) | go_size))⟩
  · by_cases h0 : t.length ≤ 65535
    rotate_left
    · obtain rfl : r = false := by rw [← HR.out]; simp [h0]
      have d0 : decide ((t.length : Int) ≤ 65535) = false := decide_eq_false (by omega)
      clear h0
      go_enter Tryd.func19, Tryd.ntmps19
      go_wp2_with (go_at_call 38; ((with_reducible refine (bare_FTFFF 5 n t ka kl kc la ll lc da dl dc _ HB.out _).mono ?_); rintro e w1 ⟨rfl, hu1⟩; have k_w1 := hu1.cells.1; have f_w1 := hu1.cells.2; have z_w1 := hu1.size; (try simp at z_w1); have l0_w1 : w.heap.size < w1.heap.size := (by omega)))
      go_ret
      exact ⟨rfl, by (repeat' (first | (with_reducible exact Up.refl _) | (with_reducible assumption) | (with_reducible refine Up.alloc ?_ _) | (with_reducible refine Up.drew ?_) | (with_reducible refine Up.drewN ?_ _) | (with_reducible refine Up.setCell ?_ ?_ _) | (with_reducible refine Up.call ?_ (by with_reducible assumption)) | go_size))⟩
    have d0 : decide ((t.length : Int) ≤ 65535) = true := decide_eq_true (by omega)
    obtain rfl : r = true := by rw [← HR.out]; try simp [h0]
    clear h0
    go_enter Tryd.func19, Tryd.ntmps19
    go_wp2_with (go_at_call 38; ((with_reducible refine (bare_FTFFF 5 n t ka kl kc la ll lc da dl dc _ HB.out _).mono ?_); rintro e w1 ⟨rfl, hu1⟩; have k_w1 := hu1.cells.1; have f_w1 := hu1.cells.2; have z_w1 := hu1.size; (try simp at z_w1); have l0_w1 : w.heap.size < w1.heap.size := (by omega)))
    go_ret
    exact ⟨rfl, by (repeat' (first | (with_reducible exact Up.refl _) | (with_reducible assumption) | (with_reducible refine Up.alloc ?_ _) | (with_reducible refine Up.drew ?_) | (with_reducible refine Up.drewN ?_ _) | (with_reducible refine Up.setCell ?_ ?_ _) | (with_reducible refine Up.call ?_ (by with_reducible assumption)) | go_size))⟩

set_option maxRecDepth 8000 in
set_option maxHeartbeats 2000000 in
theorem sound_k8 (n : Int) (t : List UInt8) (ka : Option Addr) (kl kc : Nat) (la : Option Addr) (ll lc : Nat) (da : Option Addr) (dl dc : Nat) (q : Int) (r : Bool) (hr : (bareC n t kl ll dl true false false false false && decide (1 ≤ n) && decide (n ≤ 4096)) = r) (w : World) :
    Calls Tryd.prog 19 #[.agg #[.int .i64 8, .int .i64 n, .string ⟨t.toArray⟩, .slice ka kl kc, .slice la ll lc, .slice da dl dc], .int .i64 q] w fun e w' => e = .returned (.bool r) ∧ Up w w' := by
  obtain ⟨v, hv⟩ : ∃ v, bareC n t kl ll dl true false false false false = v := ⟨_, rfl⟩
  have HB := Lib.hid hv
  rw [hv] at hr
  have HR := Lib.hid hr
  clear hr hv
  cases v
  · obtain rfl : r = false := by rw [← HR.out]; try simp
    go_enter Tryd.func19, Tryd.ntmps19
    go_wp2_with (go_at_call 38; ((with_reducible refine (bare_TFFFF 8 n t ka kl kc la ll lc da dl dc _ HB.out _).mono ?_); rintro e w1 ⟨rfl, hu1⟩; have k_w1 := hu1.cells.1; have f_w1 := hu1.cells.2; have z_w1 := hu1.size; (try simp at z_w1); have l0_w1 : w.heap.size < w1.heap.size := (by omega)))
    go_ret
    exact ⟨rfl, by (repeat' (first | (with_reducible exact Up.refl _) | (with_reducible assumption) | (with_reducible refine Up.alloc ?_ _) | (with_reducible refine Up.drew ?_) | (with_reducible refine Up.drewN ?_ _) | (with_reducible refine Up.setCell ?_ ?_ _) | (with_reducible refine Up.call ?_ (by with_reducible assumption)) | go_size))⟩
  · by_cases h0 : 1 ≤ n
    rotate_left
    · obtain rfl : r = false := by rw [← HR.out]; simp [h0]
      have d0 : decide (1 ≤ n) = false := decide_eq_false (by omega)
      clear h0
      go_enter Tryd.func19, Tryd.ntmps19
      go_wp2_with (go_at_call 38; ((with_reducible refine (bare_TFFFF 8 n t ka kl kc la ll lc da dl dc _ HB.out _).mono ?_); rintro e w1 ⟨rfl, hu1⟩; have k_w1 := hu1.cells.1; have f_w1 := hu1.cells.2; have z_w1 := hu1.size; (try simp at z_w1); have l0_w1 : w.heap.size < w1.heap.size := (by omega)))
      go_ret
      exact ⟨rfl, by (repeat' (first | (with_reducible exact Up.refl _) | (with_reducible assumption) | (with_reducible refine Up.alloc ?_ _) | (with_reducible refine Up.drew ?_) | (with_reducible refine Up.drewN ?_ _) | (with_reducible refine Up.setCell ?_ ?_ _) | (with_reducible refine Up.call ?_ (by with_reducible assumption)) | go_size))⟩
    have d0 : decide (1 ≤ n) = true := decide_eq_true (by omega)
    by_cases h1 : n ≤ 4096
    rotate_left
    · obtain rfl : r = false := by rw [← HR.out]; simp [h0, h1]
      have d1 : decide (n ≤ 4096) = false := decide_eq_false (by omega)
      clear h1
      go_enter Tryd.func19, Tryd.ntmps19
      go_wp2_with (go_at_call 38; ((with_reducible refine (bare_TFFFF 8 n t ka kl kc la ll lc da dl dc _ HB.out _).mono ?_); rintro e w1 ⟨rfl, hu1⟩; have k_w1 := hu1.cells.1; have f_w1 := hu1.cells.2; have z_w1 := hu1.size; (try simp at z_w1); have l0_w1 : w.heap.size < w1.heap.size := (by omega)))
      go_ret
      exact ⟨rfl, by (repeat' (first | (with_reducible exact Up.refl _) | (with_reducible assumption) | (with_reducible refine Up.alloc ?_ _) | (with_reducible refine Up.drew ?_) | (with_reducible refine Up.drewN ?_ _) | (with_reducible refine Up.setCell ?_ ?_ _) | (with_reducible refine Up.call ?_ (by with_reducible assumption)) | go_size))⟩
    have d1 : decide (n ≤ 4096) = true := decide_eq_true (by omega)
    obtain rfl : r = true := by rw [← HR.out]; try simp [h0, h1]
    clear h0 h1
    go_enter Tryd.func19, Tryd.ntmps19
    go_wp2_with (go_at_call 38; ((with_reducible refine (bare_TFFFF 8 n t ka kl kc la ll lc da dl dc _ HB.out _).mono ?_); rintro e w1 ⟨rfl, hu1⟩; have k_w1 := hu1.cells.1; have f_w1 := hu1.cells.2; have z_w1 := hu1.size; (try simp at z_w1); have l0_w1 : w.heap.size < w1.heap.size := (by omega)))
    go_ret
    exact ⟨rfl, by (repeat' (first | (with_reducible exact Up.refl _) | (with_reducible assumption) | (with_reducible refine Up.alloc ?_ _) | (with_reducible refine Up.drew ?_) | (with_reducible refine Up.drewN ?_ _) | (with_reducible refine Up.setCell ?_ ?_ _) | (with_reducible refine Up.call ?_ (by with_reducible assumption)) | go_size))⟩
set_option maxRecDepth 8000 in
set_option maxHeartbeats 2000000 in
theorem sound_other (k n : Int) (t : List UInt8) (ka : Option Addr) (kl kc : Nat) (la : Option Addr) (ll lc : Nat) (da : Option Addr) (dl dc : Nat) (q : Int) (h : k < 0 ∨ 9 < k) (w : World) : Calls Tryd.prog 19 #[.agg #[.int .i64 k, .int .i64 n, .string ⟨t.toArray⟩, .slice ka kl kc, .slice la ll lc, .slice da dl dc], .int .i64 q] w fun e w' => e = .returned (.bool false) ∧ Up w w' := by
  rcases h with h | h
  · go_enter Tryd.func19, Tryd.ntmps19
    go_wp2
    go_ret
    exact ⟨rfl, by (repeat' (first | (with_reducible exact Up.refl _) | (with_reducible assumption) | (with_reducible refine Up.alloc ?_ _) | (with_reducible refine Up.drew ?_) | (with_reducible refine Up.drewN ?_ _) | (with_reducible refine Up.setCell ?_ ?_ _) | (with_reducible refine Up.call ?_ (by with_reducible assumption)) | go_size))⟩
  · go_enter Tryd.func19, Tryd.ntmps19
    go_wp2
    go_ret
    exact ⟨rfl, by (repeat' (first | (with_reducible exact Up.refl _) | (with_reducible assumption) | (with_reducible refine Up.alloc ?_ _) | (with_reducible refine Up.drew ?_) | (with_reducible refine Up.drewN ?_ _) | (with_reducible refine Up.setCell ?_ ?_ _) | (with_reducible refine Up.call ?_ (by with_reducible assumption)) | go_size))⟩

end Go.Proofs.YtaafelkdhahaoaaDoor.Pob
