/- A store in which one array is: is, list, note, Part. -/
import Derived.Test.YtcbelhfbdgkcoaaStA
namespace Go.Proofs.Ytcbelhfbdgkcoaa.St
open Go.ChangeShapes Go.WideShapes Go.ChangeAt Go.RowKit
set_option linter.unusedVariables false
set_option linter.unusedSimpArgs false

theorem valid_item (b : Nat) (k N : Int) (d6 : (k == 6) = false) (d7 : (k == 7) = false) (d8 : (k == 8) = false) (w : World) :
    Calls Try.prog 34 #[.pointer (some ⟨b, 0, none⟩), .agg #[.int .i64 k, .bool false, .int .i64 0, .int .i64 N, .string ⟨#[]⟩, .int .i64 0, .int .i64 0, .int .i64 0]] w fun E w' => E = .returned (.bool true) ∧ Up w w' := by
  go_enter Try.func34, Try.ntmps34
  go_wp2
  go_ret
  exact ⟨rfl, by (repeat' (first | (with_reducible exact Up.refl _) | (with_reducible assumption) | (with_reducible refine Up.alloc ?_ _) | (with_reducible refine Up.drew ?_) | (with_reducible refine Up.drewN ?_ _) | (with_reducible refine Up.setCell ?_ ?_ _) | (with_reducible refine Up.call ?_ (by with_reducible assumption)) | go_size))⟩

theorem is_arr (b gl cap gi : Nat) (free : Int) (n : Nat) (cs : List Value) (f l : Int) (h0 : 0 ≤ f) (h1 : 0 ≤ l) (h2 : f + l ≤ n) (w : World) (h : ArrIs w b gl cap gi free n cs) :
    Calls Try.prog 35 #[.pointer (some ⟨b, 0, none⟩), .agg #[.int .i64 7, .bool false, .int .i64 0, .int .i64 0, .string ⟨#[]⟩, .int .i64 0, .int .i64 f, .int .i64 l], .int .i64 7] w fun E w' => E = .returned (.bool true) ∧ Up w w' := by
  have HA := Lib.hid h
  clear h
  go_enter Try.func35, Try.ntmps35
  go_wp2_with (go_at_call 34; ((with_reducible refine (valid_arr b gl cap gi free n cs f l h0 h1 h2 _ (HA.out.up (by (repeat' (first | (with_reducible exact Up.refl _) | (with_reducible assumption) | (with_reducible refine Up.alloc ?_ _) | (with_reducible refine Up.drew ?_) | (with_reducible refine Up.drewN ?_ _) | (with_reducible refine Up.setCell ?_ ?_ _) | (with_reducible refine Up.call ?_ (by with_reducible assumption)) | go_size))))).mono ?_); rintro E w1 ⟨rfl, hu1⟩))
  go_ret
  exact ⟨rfl, by (repeat' (first | (with_reducible exact Up.refl _) | (with_reducible assumption) | (with_reducible refine Up.alloc ?_ _) | (with_reducible refine Up.drew ?_) | (with_reducible refine Up.drewN ?_ _) | (with_reducible refine Up.setCell ?_ ?_ _) | (with_reducible refine Up.call ?_ (by with_reducible assumption)) | go_size))⟩

set_option maxRecDepth 4000 in
theorem list_arr (b gl cap gi : Nat) (free : Int) (n : Nat) (cs : List Value) (f l : Nat) (h2 : f + l ≤ n) (w : World) (h : ArrIs w b gl cap gi free n cs) :
    Calls Try.prog 37 #[.pointer (some ⟨b, 0, none⟩), .agg #[.int .i64 7, .bool false, .int .i64 0, .int .i64 0, .string ⟨#[]⟩, .int .i64 0, .int .i64 f, .int .i64 l]] w fun E w' => E = .returned (.slice (if n = f then some ⟨gi, 0, none⟩ else some ⟨gi, f * 8, none⟩) l (n - f)) ∧ Up w w' := by
  have q2 : w.cell? ⟨b, 2, none⟩ = some (.slice (some ⟨gl, 0, none⟩) 1 cap) := h.row.cell 2 rfl
  have hb := h.row.lt
  have hb1 : b < w.heap.size + 1 := by omega
  have hg := cell_lt h.at0
  have hg1 : gl < w.heap.size + 1 := by omega
  have q0 := h.at0
  have hlen := h.len
  clear h
  obtain ⟨i0, ji, jz0, jz1, jz2⟩ := info_parts infoObj
  have x1 : (f : Int) ≤ (n : Int) := by omega
  have x2 : (f : Int) + (l : Int) ≤ (n : Int) := by omega
  by_cases hz : n = f
  · subst hz
    obtain rfl : l = 0 := by omega
    rw [if_pos rfl, Nat.sub_self]
    go_enter Try.func37, Try.ntmps37
    go_wp2
    go_region
    go_wp2
    go_ret
    exact ⟨rfl, by (repeat' (first | (with_reducible exact Up.refl _) | (with_reducible assumption) | (with_reducible refine Up.alloc ?_ _) | (with_reducible refine Up.drew ?_) | (with_reducible refine Up.drewN ?_ _) | (with_reducible refine Up.setCell ?_ ?_ _) | (with_reducible refine Up.call ?_ (by with_reducible assumption)) | go_size))⟩
  · rw [if_neg hz]
    go_enter Try.func37, Try.ntmps37
    go_wp2
    go_region
    rw [Nat.add_sub_cancel_left]
    (try rw [if_neg hz])
    go_wp2
    go_ret
    exact ⟨rfl, by (repeat' (first | (with_reducible exact Up.refl _) | (with_reducible assumption) | (with_reducible refine Up.alloc ?_ _) | (with_reducible refine Up.drew ?_) | (with_reducible refine Up.drewN ?_ _) | (with_reducible refine Up.setCell ?_ ?_ _) | (with_reducible refine Up.call ?_ (by with_reducible assumption)) | go_size))⟩

theorem note_calls (b : Nat) (w : World) (h5 : w.cell? ⟨b, 5, none⟩ = some (.slice none 0 0)) (cs : Array Value) :
    Calls Try.prog 36 #[.pointer (some ⟨b, 0, none⟩), .agg cs] w fun E w' => E = .returned (.tuple #[]) ∧ Up w w' := by
  have hb := cell_lt h5
  have hb1 : b < w.heap.size + 1 := by omega
  go_enter Try.func36, Try.ntmps36
  go_wp2
  go_returns
  exact ⟨rfl, by (repeat' (first | (with_reducible exact Up.refl _) | (with_reducible assumption) | (with_reducible refine Up.alloc ?_ _) | (with_reducible refine Up.drew ?_) | (with_reducible refine Up.drewN ?_ _) | (with_reducible refine Up.setCell ?_ ?_ _) | (with_reducible refine Up.call ?_ (by with_reducible assumption)) | go_size))⟩

theorem results_part (tmps : Array Value) (w : World) (bo : Nat) (k : Int) (x : Bool) (a N : Int) (s : ByteArray) (r f l er : Int)
    (hR : Row w bo #[.int .i64 k, .bool x, .int .i64 a, .int .i64 N, .string s, .int .i64 r, .int .i64 f, .int .i64 l])
    (e8 : tmps[8]?.getD undef = .pointer (some ⟨bo, 0, none⟩)) (e9 : tmps[9]?.getD undef = .int .i64 er) :
    (results Try.f9 tmps).run Try.prog w = .ok (.tuple #[.agg #[.int .i64 k, .bool x, .int .i64 a, .int .i64 N, .string s, .int .i64 r, .int .i64 f, .int .i64 l], .int .i64 er]) w := by
  have c0 := hR.cell 0 rfl
  have c1 := hR.cell 1 rfl
  have c2 := hR.cell 2 rfl
  have c3 := hR.cell 3 rfl
  have c4 := hR.cell 4 rfl
  have c5 := hR.cell 5 rfl
  have c6 := hR.cell 6 rfl
  have c7 := hR.cell 7 rfl
  simp [results, Try.results9, go_sem, e8, e9, c0, c1, c2, c3, c4, c5, c6, c7]

set_option maxHeartbeats 2000000 in
set_option maxRecDepth 4000 in
theorem part_ok (b gl cap gi : Nat) (free : Int) (n : Nat) (cs : List Value) (f l j m : Nat) (h2 : f + l ≤ n) (h3 : j + m ≤ l) (w : World) (h : ArrIs w b gl cap gi free n cs) :
    Calls Try.prog 9 #[.pointer (some ⟨b, 0, none⟩), .agg #[.int .i64 7, .bool false, .int .i64 0, .int .i64 0, .string ⟨#[]⟩, .int .i64 0, .int .i64 f, .int .i64 l], .int .i64 j, .int .i64 m] w fun E w' => E = .returned (.tuple #[.agg #[.int .i64 7, .bool false, .int .i64 0, .int .i64 0, .string ⟨#[]⟩, .int .i64 0, .int .i64 (f + j), .int .i64 m], .int .i64 0]) ∧ Up w w' := by
  have HA := Lib.hid h
  have hlen := h.len
  clear h
  have x0 : decide ((j : Int) < 0) = false := decide_eq_false (by omega)
  have x1 : decide ((m : Int) < 0) = false := decide_eq_false (by omega)
  have x2 : decide ((l : Int) < j) = false := decide_eq_false (by omega)
  have x3 : decide ((l : Int) - j < m) = false := decide_eq_false (by omega)
  go_enter Try.func9, Try.ntmps9
  go_wp2_with (go_at_call 34; ((with_reducible refine (valid_arr b gl cap gi free n cs f l (by omega) (by omega) (by omega) _ (HA.out.up (by (repeat' (first | (with_reducible exact Up.refl _) | (with_reducible assumption) | (with_reducible refine Up.alloc ?_ _) | (with_reducible refine Up.drew ?_) | (with_reducible refine Up.drewN ?_ _) | (with_reducible refine Up.setCell ?_ ?_ _) | (with_reducible refine Up.call ?_ (by with_reducible assumption)) | go_size))))).mono ?_); rintro E w1 ⟨rfl, hu1⟩; have Ro : Row w1 (w.heap.size) #[.int .i64 7, .bool false, .int .i64 0, .int .i64 0, .string ⟨#[]⟩, .int .i64 0, .int .i64 f, .int .i64 l] := Row.up (show Row _ (w.heap.size) #[.int .i64 7, .bool false, .int .i64 0, .int .i64 0, .string ⟨#[]⟩, .int .i64 0, .int .i64 f, .int .i64 l] by (repeat' (first | (with_reducible assumption) | (with_reducible refine Row.at _ _ ?_; (simp; done)) | (with_reducible refine Row.alloc ?_ _) | (with_reducible refine Row.drew ?_) | (with_reducible refine Row.drewN ?_ _) | (with_reducible refine Row.other ?_ (by first | (simp; done) | (simp; omega) | omega) _) | (with_reducible refine Row.up ?_ (by with_reducible assumption)) | (with_reducible refine Row.chg ?_ (by with_reducible assumption) (by first | (simp; done) | (simp; omega)))))) hu1; have o0 := Ro.cell 0 rfl; have o1 := Ro.cell 1 rfl; have o2 := Ro.cell 2 rfl; have o3 := Ro.cell 3 rfl; have o4 := Ro.cell 4 rfl; have o5 := Ro.cell 5 rfl; have o6 := Ro.cell 6 rfl; have o7 := Ro.cell 7 rfl; have lo := Ro.lt; have of0 := Ro.free 0; have of1 := Ro.free 1; have of2 := Ro.free 2; have of3 := Ro.free 3; have of4 := Ro.free 4; have of5 := Ro.free 5; have of6 := Ro.free 6; have of7 := Ro.free 7; have Rz : Row w1 (w.heap.size + 1) #[.int .i64 0, .bool false, .int .i64 0, .int .i64 0, .string ⟨#[]⟩, .int .i64 0, .int .i64 0, .int .i64 0] := Row.up (show Row _ (w.heap.size + 1) #[.int .i64 0, .bool false, .int .i64 0, .int .i64 0, .string ⟨#[]⟩, .int .i64 0, .int .i64 0, .int .i64 0] by (repeat' (first | (with_reducible assumption) | (with_reducible refine Row.at _ _ ?_; (simp; done)) | (with_reducible refine Row.alloc ?_ _) | (with_reducible refine Row.drew ?_) | (with_reducible refine Row.drewN ?_ _) | (with_reducible refine Row.other ?_ (by first | (simp; done) | (simp; omega) | omega) _) | (with_reducible refine Row.up ?_ (by with_reducible assumption)) | (with_reducible refine Row.chg ?_ (by with_reducible assumption) (by first | (simp; done) | (simp; omega)))))) hu1; have z0 := Rz.cell 0 rfl; have z1 := Rz.cell 1 rfl; have z2 := Rz.cell 2 rfl; have z3 := Rz.cell 3 rfl; have z4 := Rz.cell 4 rfl; have z5 := Rz.cell 5 rfl; have z6 := Rz.cell 6 rfl; have z7 := Rz.cell 7 rfl; have lz := Rz.lt; have zf0 := Rz.free 0; have zf1 := Rz.free 1; have zf2 := Rz.free 2; have zf3 := Rz.free 3; have zf4 := Rz.free 4; have zf5 := Rz.free 5; have zf6 := Rz.free 6; have zf7 := Rz.free 7; have z1 := hu1.size; (try simp at z1)))
  (try simp only [Exit.inBlock, Exit.then])
  refine bodyPost_ret (results_part _ _ (w.heap.size + 1) 7 false 0 0 ⟨#[]⟩ 0 (f + j) m 0 (by apply cast; (case h => (repeat (first | (with_reducible assumption) | (with_reducible apply Row.at; (simp; done)) | (with_reducible apply Row.alloc) | (with_reducible apply Row.drew) | (with_reducible apply Row.drewN) | (with_reducible apply Row.set) | ((with_reducible apply Row.other); (case hp => first | (simp; done) | (simp; omega) | omega))))); (case e => rfl)) rfl rfl) rfl ?_
  exact ⟨rfl, by (repeat' (first | (with_reducible exact Up.refl _) | (with_reducible assumption) | (with_reducible refine Up.alloc ?_ _) | (with_reducible refine Up.drew ?_) | (with_reducible refine Up.drewN ?_ _) | (with_reducible refine Up.setCell ?_ ?_ _) | (with_reducible refine Up.call ?_ (by with_reducible assumption)) | go_size))⟩

set_option maxHeartbeats 2000000 in
set_option maxRecDepth 4000 in
theorem part_bad (b gl cap gi : Nat) (free : Int) (n : Nat) (cs : List Value) (f l j m : Nat) (h2 : f + l ≤ n) (h3 : l < j + m) (w : World) (h : ArrIs w b gl cap gi free n cs) :
    Calls Try.prog 9 #[.pointer (some ⟨b, 0, none⟩), .agg #[.int .i64 7, .bool false, .int .i64 0, .int .i64 0, .string ⟨#[]⟩, .int .i64 0, .int .i64 f, .int .i64 l], .int .i64 j, .int .i64 m] w fun E w' => E = .returned (.tuple #[.agg #[.int .i64 0, .bool false, .int .i64 0, .int .i64 0, .string ⟨#[]⟩, .int .i64 0, .int .i64 0, .int .i64 0], .int .i64 11]) ∧ Up w w' := by
  have HA := Lib.hid h
  have hlen := h.len
  clear h
  have x0 : decide ((j : Int) < 0) = false := decide_eq_false (by omega)
  have x1 : decide ((m : Int) < 0) = false := decide_eq_false (by omega)
  by_cases h4 : l < j
  · have x2 : decide ((l : Int) < j) = true := decide_eq_true (by omega)
    go_enter Try.func9, Try.ntmps9
    go_wp2_with (go_at_call 34; ((with_reducible refine (valid_arr b gl cap gi free n cs f l (by omega) (by omega) (by omega) _ (HA.out.up (by (repeat' (first | (with_reducible exact Up.refl _) | (with_reducible assumption) | (with_reducible refine Up.alloc ?_ _) | (with_reducible refine Up.drew ?_) | (with_reducible refine Up.drewN ?_ _) | (with_reducible refine Up.setCell ?_ ?_ _) | (with_reducible refine Up.call ?_ (by with_reducible assumption)) | go_size))))).mono ?_); rintro E w1 ⟨rfl, hu1⟩; have Ro : Row w1 (w.heap.size) #[.int .i64 7, .bool false, .int .i64 0, .int .i64 0, .string ⟨#[]⟩, .int .i64 0, .int .i64 f, .int .i64 l] := Row.up (show Row _ (w.heap.size) #[.int .i64 7, .bool false, .int .i64 0, .int .i64 0, .string ⟨#[]⟩, .int .i64 0, .int .i64 f, .int .i64 l] by (repeat' (first | (with_reducible assumption) | (with_reducible refine Row.at _ _ ?_; (simp; done)) | (with_reducible refine Row.alloc ?_ _) | (with_reducible refine Row.drew ?_) | (with_reducible refine Row.drewN ?_ _) | (with_reducible refine Row.other ?_ (by first | (simp; done) | (simp; omega) | omega) _) | (with_reducible refine Row.up ?_ (by with_reducible assumption)) | (with_reducible refine Row.chg ?_ (by with_reducible assumption) (by first | (simp; done) | (simp; omega)))))) hu1; have o0 := Ro.cell 0 rfl; have o1 := Ro.cell 1 rfl; have o2 := Ro.cell 2 rfl; have o3 := Ro.cell 3 rfl; have o4 := Ro.cell 4 rfl; have o5 := Ro.cell 5 rfl; have o6 := Ro.cell 6 rfl; have o7 := Ro.cell 7 rfl; have lo := Ro.lt; have of0 := Ro.free 0; have of1 := Ro.free 1; have of2 := Ro.free 2; have of3 := Ro.free 3; have of4 := Ro.free 4; have of5 := Ro.free 5; have of6 := Ro.free 6; have of7 := Ro.free 7; have Rz : Row w1 (w.heap.size + 1) #[.int .i64 0, .bool false, .int .i64 0, .int .i64 0, .string ⟨#[]⟩, .int .i64 0, .int .i64 0, .int .i64 0] := Row.up (show Row _ (w.heap.size + 1) #[.int .i64 0, .bool false, .int .i64 0, .int .i64 0, .string ⟨#[]⟩, .int .i64 0, .int .i64 0, .int .i64 0] by (repeat' (first | (with_reducible assumption) | (with_reducible refine Row.at _ _ ?_; (simp; done)) | (with_reducible refine Row.alloc ?_ _) | (with_reducible refine Row.drew ?_) | (with_reducible refine Row.drewN ?_ _) | (with_reducible refine Row.other ?_ (by first | (simp; done) | (simp; omega) | omega) _) | (with_reducible refine Row.up ?_ (by with_reducible assumption)) | (with_reducible refine Row.chg ?_ (by with_reducible assumption) (by first | (simp; done) | (simp; omega)))))) hu1; have z0 := Rz.cell 0 rfl; have z1 := Rz.cell 1 rfl; have z2 := Rz.cell 2 rfl; have z3 := Rz.cell 3 rfl; have z4 := Rz.cell 4 rfl; have z5 := Rz.cell 5 rfl; have z6 := Rz.cell 6 rfl; have z7 := Rz.cell 7 rfl; have lz := Rz.lt; have zf0 := Rz.free 0; have zf1 := Rz.free 1; have zf2 := Rz.free 2; have zf3 := Rz.free 3; have zf4 := Rz.free 4; have zf5 := Rz.free 5; have zf6 := Rz.free 6; have zf7 := Rz.free 7; have z1 := hu1.size; (try simp at z1)))
    (try simp only [Exit.inBlock, Exit.then])
    refine bodyPost_ret (results_part _ _ (w.heap.size + 1) 0 false 0 0 ⟨#[]⟩ 0 0 0 11 (by apply cast; (case h => (repeat (first | (with_reducible assumption) | (with_reducible apply Row.at; (simp; done)) | (with_reducible apply Row.alloc) | (with_reducible apply Row.drew) | (with_reducible apply Row.drewN) | (with_reducible apply Row.set) | ((with_reducible apply Row.other); (case hp => first | (simp; done) | (simp; omega) | omega))))); (case e => rfl)) rfl rfl) rfl ?_
    exact ⟨rfl, by (repeat' (first | (with_reducible exact Up.refl _) | (with_reducible assumption) | (with_reducible refine Up.alloc ?_ _) | (with_reducible refine Up.drew ?_) | (with_reducible refine Up.drewN ?_ _) | (with_reducible refine Up.setCell ?_ ?_ _) | (with_reducible refine Up.call ?_ (by with_reducible assumption)) | go_size))⟩
  · have x2 : decide ((l : Int) < j) = false := decide_eq_false (by omega)
    have x3 : decide ((l : Int) - j < m) = true := decide_eq_true (by omega)
    go_enter Try.func9, Try.ntmps9
    go_wp2_with (go_at_call 34; ((with_reducible refine (valid_arr b gl cap gi free n cs f l (by omega) (by omega) (by omega) _ (HA.out.up (by (repeat' (first | (with_reducible exact Up.refl _) | (with_reducible assumption) | (with_reducible refine Up.alloc ?_ _) | (with_reducible refine Up.drew ?_) | (with_reducible refine Up.drewN ?_ _) | (with_reducible refine Up.setCell ?_ ?_ _) | (with_reducible refine Up.call ?_ (by with_reducible assumption)) | go_size))))).mono ?_); rintro E w1 ⟨rfl, hu1⟩; have Ro : Row w1 (w.heap.size) #[.int .i64 7, .bool false, .int .i64 0, .int .i64 0, .string ⟨#[]⟩, .int .i64 0, .int .i64 f, .int .i64 l] := Row.up (show Row _ (w.heap.size) #[.int .i64 7, .bool false, .int .i64 0, .int .i64 0, .string ⟨#[]⟩, .int .i64 0, .int .i64 f, .int .i64 l] by (repeat' (first | (with_reducible assumption) | (with_reducible refine Row.at _ _ ?_; (simp; done)) | (with_reducible refine Row.alloc ?_ _) | (with_reducible refine Row.drew ?_) | (with_reducible refine Row.drewN ?_ _) | (with_reducible refine Row.other ?_ (by first | (simp; done) | (simp; omega) | omega) _) | (with_reducible refine Row.up ?_ (by with_reducible assumption)) | (with_reducible refine Row.chg ?_ (by with_reducible assumption) (by first | (simp; done) | (simp; omega)))))) hu1; have o0 := Ro.cell 0 rfl; have o1 := Ro.cell 1 rfl; have o2 := Ro.cell 2 rfl; have o3 := Ro.cell 3 rfl; have o4 := Ro.cell 4 rfl; have o5 := Ro.cell 5 rfl; have o6 := Ro.cell 6 rfl; have o7 := Ro.cell 7 rfl; have lo := Ro.lt; have of0 := Ro.free 0; have of1 := Ro.free 1; have of2 := Ro.free 2; have of3 := Ro.free 3; have of4 := Ro.free 4; have of5 := Ro.free 5; have of6 := Ro.free 6; have of7 := Ro.free 7; have Rz : Row w1 (w.heap.size + 1) #[.int .i64 0, .bool false, .int .i64 0, .int .i64 0, .string ⟨#[]⟩, .int .i64 0, .int .i64 0, .int .i64 0] := Row.up (show Row _ (w.heap.size + 1) #[.int .i64 0, .bool false, .int .i64 0, .int .i64 0, .string ⟨#[]⟩, .int .i64 0, .int .i64 0, .int .i64 0] by (repeat' (first | (with_reducible assumption) | (with_reducible refine Row.at _ _ ?_; (simp; done)) | (with_reducible refine Row.alloc ?_ _) | (with_reducible refine Row.drew ?_) | (with_reducible refine Row.drewN ?_ _) | (with_reducible refine Row.other ?_ (by first | (simp; done) | (simp; omega) | omega) _) | (with_reducible refine Row.up ?_ (by with_reducible assumption)) | (with_reducible refine Row.chg ?_ (by with_reducible assumption) (by first | (simp; done) | (simp; omega)))))) hu1; have z0 := Rz.cell 0 rfl; have z1 := Rz.cell 1 rfl; have z2 := Rz.cell 2 rfl; have z3 := Rz.cell 3 rfl; have z4 := Rz.cell 4 rfl; have z5 := Rz.cell 5 rfl; have z6 := Rz.cell 6 rfl; have z7 := Rz.cell 7 rfl; have lz := Rz.lt; have zf0 := Rz.free 0; have zf1 := Rz.free 1; have zf2 := Rz.free 2; have zf3 := Rz.free 3; have zf4 := Rz.free 4; have zf5 := Rz.free 5; have zf6 := Rz.free 6; have zf7 := Rz.free 7; have z1 := hu1.size; (try simp at z1)))
    (try simp only [Exit.inBlock, Exit.then])
    refine bodyPost_ret (results_part _ _ (w.heap.size + 1) 0 false 0 0 ⟨#[]⟩ 0 0 0 11 (by apply cast; (case h => (repeat (first | (with_reducible assumption) | (with_reducible apply Row.at; (simp; done)) | (with_reducible apply Row.alloc) | (with_reducible apply Row.drew) | (with_reducible apply Row.drewN) | (with_reducible apply Row.set) | ((with_reducible apply Row.other); (case hp => first | (simp; done) | (simp; omega) | omega))))); (case e => rfl)) rfl rfl) rfl ?_
    exact ⟨rfl, by (repeat' (first | (with_reducible exact Up.refl _) | (with_reducible assumption) | (with_reducible refine Up.alloc ?_ _) | (with_reducible refine Up.drew ?_) | (with_reducible refine Up.drewN ?_ _) | (with_reducible refine Up.setCell ?_ ?_ _) | (with_reducible refine Up.call ?_ (by with_reducible assumption)) | go_size))⟩

theorem items_calls (b gl cap gi : Nat) (free : Int) (n : Nat) (cs : List Value) (f l : Nat) (h2 : f + l ≤ n) (w : World) (h : ArrIs w b gl cap gi free n cs) : True := trivial

end Go.Proofs.Ytcbelhfbdgkcoaa.St
