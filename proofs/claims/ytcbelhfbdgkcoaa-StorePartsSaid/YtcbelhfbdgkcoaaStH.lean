/- Put beside an array; a part at the start; what the items are after some puts. -/
import Derived.Test.YtcbelhfbdgkcoaaStG
namespace Go.Proofs.Ytcbelhfbdgkcoaa.St
open Go.ChangeShapes Go.WideShapes Go.ChangeAt Go.RowKit
set_option linter.unusedVariables false
set_option linter.unusedSimpArgs false

set_option maxRecDepth 8000 in
set_option maxHeartbeats 2000000 in
theorem put_bad (b gl cap gi : Nat) (free : Int) (n : Nat) (cs : List Value) (f l : Nat) (i k N : Int) (hk : k = 0 ∨ k = 1) (h2 : f + l ≤ n) (h3 : i < 0 ∨ (l : Int) ≤ i) (w : World) (h : ArrIs w b gl cap gi free n cs) :
    Calls Try.prog 10 #[.pointer (some ⟨b, 0, none⟩), .agg #[.int .i64 7, .bool false, .int .i64 0, .int .i64 0, .string ⟨#[]⟩, .int .i64 0, .int .i64 f, .int .i64 l], .int .i64 i, .agg #[.int .i64 k, .bool false, .int .i64 0, .int .i64 N, .string ⟨#[]⟩, .int .i64 0, .int .i64 0, .int .i64 0]] w fun E w' => E = .returned (.int .i64 11) ∧ Up w w' := by
  have HA := Lib.hid h
  have hlen := h.len
  have d6 : (k == 6) = false := by rcases hk with rfl | rfl <;> rfl
  have d7 : (k == 7) = false := by rcases hk with rfl | rfl <;> rfl
  have d8 : (k == 8) = false := by rcases hk with rfl | rfl <;> rfl
  clear h hk
  by_cases h4 : i < 0
  · have x0 : decide ((i : Int) < 0) = true := decide_eq_true h4
    go_enter Try.func10, Try.ntmps10
    go_wp2_with (first
      | (go_at_call 35; ((with_reducible refine (is_arr b gl cap gi free n cs f l (by omega) (by omega) (by omega) _ (HA.out.up (by (repeat' (first | (with_reducible exact Up.refl _) | (with_reducible assumption) | (with_reducible refine Up.alloc ?_ _) | (with_reducible refine Up.drew ?_) | (with_reducible refine Up.drewN ?_ _) | (with_reducible refine Up.setCell ?_ ?_ _) | (with_reducible refine Up.call ?_ (by with_reducible assumption)) | go_size))))).mono ?_); rintro E w1 ⟨rfl, hu1⟩; have Ro : Row w1 (w.heap.size) #[.int .i64 7, .bool false, .int .i64 0, .int .i64 0, .string ⟨#[]⟩, .int .i64 0, .int .i64 f, .int .i64 l] := Row.up (show Row _ (w.heap.size) #[.int .i64 7, .bool false, .int .i64 0, .int .i64 0, .string ⟨#[]⟩, .int .i64 0, .int .i64 f, .int .i64 l] by (repeat' (first | (with_reducible assumption) | (with_reducible refine Row.at _ _ ?_; (simp; done)) | (with_reducible refine Row.alloc ?_ _) | (with_reducible refine Row.drew ?_) | (with_reducible refine Row.drewN ?_ _) | (with_reducible refine Row.other ?_ (by first | (simp; done) | (simp; omega) | omega) _) | (with_reducible refine Row.up ?_ (by with_reducible assumption)) | (with_reducible refine Row.chg ?_ (by with_reducible assumption) (by first | (simp; done) | (simp; omega)))))) hu1; have o0 := Ro.cell 0 rfl; have o1 := Ro.cell 1 rfl; have o2 := Ro.cell 2 rfl; have o3 := Ro.cell 3 rfl; have o4 := Ro.cell 4 rfl; have o5 := Ro.cell 5 rfl; have o6 := Ro.cell 6 rfl; have o7 := Ro.cell 7 rfl; have lo := Ro.lt; have Rx : Row w1 (w.heap.size + 1) #[.int .i64 k, .bool false, .int .i64 0, .int .i64 N, .string ⟨#[]⟩, .int .i64 0, .int .i64 0, .int .i64 0] := Row.up (show Row _ (w.heap.size + 1) #[.int .i64 k, .bool false, .int .i64 0, .int .i64 N, .string ⟨#[]⟩, .int .i64 0, .int .i64 0, .int .i64 0] by (repeat' (first | (with_reducible assumption) | (with_reducible refine Row.at _ _ ?_; (simp; done)) | (with_reducible refine Row.alloc ?_ _) | (with_reducible refine Row.drew ?_) | (with_reducible refine Row.drewN ?_ _) | (with_reducible refine Row.other ?_ (by first | (simp; done) | (simp; omega) | omega) _) | (with_reducible refine Row.up ?_ (by with_reducible assumption)) | (with_reducible refine Row.chg ?_ (by with_reducible assumption) (by first | (simp; done) | (simp; omega)))))) hu1; have x0 := Rx.cell 0 rfl; have x1 := Rx.cell 1 rfl; have x2 := Rx.cell 2 rfl; have x3 := Rx.cell 3 rfl; have x4 := Rx.cell 4 rfl; have x5 := Rx.cell 5 rfl; have x6 := Rx.cell 6 rfl; have x7 := Rx.cell 7 rfl; have lx := Rx.lt))
      | (go_at_call 34; ((with_reducible refine (valid_item b k N d6 d7 d8 _).mono ?_); rintro E w2 ⟨rfl, hu2⟩; have Rp : Row w2 (w.heap.size) #[.int .i64 7, .bool false, .int .i64 0, .int .i64 0, .string ⟨#[]⟩, .int .i64 0, .int .i64 f, .int .i64 l] := Row.up (show Row _ (w.heap.size) #[.int .i64 7, .bool false, .int .i64 0, .int .i64 0, .string ⟨#[]⟩, .int .i64 0, .int .i64 f, .int .i64 l] by (repeat' (first | (with_reducible assumption) | (with_reducible refine Row.at _ _ ?_; (simp; done)) | (with_reducible refine Row.alloc ?_ _) | (with_reducible refine Row.drew ?_) | (with_reducible refine Row.drewN ?_ _) | (with_reducible refine Row.other ?_ (by first | (simp; done) | (simp; omega) | omega) _) | (with_reducible refine Row.up ?_ (by with_reducible assumption)) | (with_reducible refine Row.chg ?_ (by with_reducible assumption) (by first | (simp; done) | (simp; omega)))))) hu2; have p0 := Rp.cell 0 rfl; have p1 := Rp.cell 1 rfl; have p2 := Rp.cell 2 rfl; have p3 := Rp.cell 3 rfl; have p4 := Rp.cell 4 rfl; have p5 := Rp.cell 5 rfl; have p6 := Rp.cell 6 rfl; have p7 := Rp.cell 7 rfl; have lp := Rp.lt)))
    go_ret
    exact ⟨rfl, by (repeat' (first | (with_reducible exact Up.refl _) | (with_reducible assumption) | (with_reducible refine Up.alloc ?_ _) | (with_reducible refine Up.drew ?_) | (with_reducible refine Up.drewN ?_ _) | (with_reducible refine Up.setCell ?_ ?_ _) | (with_reducible refine Up.call ?_ (by with_reducible assumption)) | go_size))⟩
  · have x0 : decide ((i : Int) < 0) = false := decide_eq_false h4
    have x1 : decide ((l : Int) ≤ i) = true := decide_eq_true (by omega)
    go_enter Try.func10, Try.ntmps10
    go_wp2_with (first
      | (go_at_call 35; ((with_reducible refine (is_arr b gl cap gi free n cs f l (by omega) (by omega) (by omega) _ (HA.out.up (by (repeat' (first | (with_reducible exact Up.refl _) | (with_reducible assumption) | (with_reducible refine Up.alloc ?_ _) | (with_reducible refine Up.drew ?_) | (with_reducible refine Up.drewN ?_ _) | (with_reducible refine Up.setCell ?_ ?_ _) | (with_reducible refine Up.call ?_ (by with_reducible assumption)) | go_size))))).mono ?_); rintro E w1 ⟨rfl, hu1⟩; have Ro : Row w1 (w.heap.size) #[.int .i64 7, .bool false, .int .i64 0, .int .i64 0, .string ⟨#[]⟩, .int .i64 0, .int .i64 f, .int .i64 l] := Row.up (show Row _ (w.heap.size) #[.int .i64 7, .bool false, .int .i64 0, .int .i64 0, .string ⟨#[]⟩, .int .i64 0, .int .i64 f, .int .i64 l] by (repeat' (first | (with_reducible assumption) | (with_reducible refine Row.at _ _ ?_; (simp; done)) | (with_reducible refine Row.alloc ?_ _) | (with_reducible refine Row.drew ?_) | (with_reducible refine Row.drewN ?_ _) | (with_reducible refine Row.other ?_ (by first | (simp; done) | (simp; omega) | omega) _) | (with_reducible refine Row.up ?_ (by with_reducible assumption)) | (with_reducible refine Row.chg ?_ (by with_reducible assumption) (by first | (simp; done) | (simp; omega)))))) hu1; have o0 := Ro.cell 0 rfl; have o1 := Ro.cell 1 rfl; have o2 := Ro.cell 2 rfl; have o3 := Ro.cell 3 rfl; have o4 := Ro.cell 4 rfl; have o5 := Ro.cell 5 rfl; have o6 := Ro.cell 6 rfl; have o7 := Ro.cell 7 rfl; have lo := Ro.lt; have Rx : Row w1 (w.heap.size + 1) #[.int .i64 k, .bool false, .int .i64 0, .int .i64 N, .string ⟨#[]⟩, .int .i64 0, .int .i64 0, .int .i64 0] := Row.up (show Row _ (w.heap.size + 1) #[.int .i64 k, .bool false, .int .i64 0, .int .i64 N, .string ⟨#[]⟩, .int .i64 0, .int .i64 0, .int .i64 0] by (repeat' (first | (with_reducible assumption) | (with_reducible refine Row.at _ _ ?_; (simp; done)) | (with_reducible refine Row.alloc ?_ _) | (with_reducible refine Row.drew ?_) | (with_reducible refine Row.drewN ?_ _) | (with_reducible refine Row.other ?_ (by first | (simp; done) | (simp; omega) | omega) _) | (with_reducible refine Row.up ?_ (by with_reducible assumption)) | (with_reducible refine Row.chg ?_ (by with_reducible assumption) (by first | (simp; done) | (simp; omega)))))) hu1; have x0 := Rx.cell 0 rfl; have x1 := Rx.cell 1 rfl; have x2 := Rx.cell 2 rfl; have x3 := Rx.cell 3 rfl; have x4 := Rx.cell 4 rfl; have x5 := Rx.cell 5 rfl; have x6 := Rx.cell 6 rfl; have x7 := Rx.cell 7 rfl; have lx := Rx.lt))
      | (go_at_call 34; ((with_reducible refine (valid_item b k N d6 d7 d8 _).mono ?_); rintro E w2 ⟨rfl, hu2⟩; have Rp : Row w2 (w.heap.size) #[.int .i64 7, .bool false, .int .i64 0, .int .i64 0, .string ⟨#[]⟩, .int .i64 0, .int .i64 f, .int .i64 l] := Row.up (show Row _ (w.heap.size) #[.int .i64 7, .bool false, .int .i64 0, .int .i64 0, .string ⟨#[]⟩, .int .i64 0, .int .i64 f, .int .i64 l] by (repeat' (first | (with_reducible assumption) | (with_reducible refine Row.at _ _ ?_; (simp; done)) | (with_reducible refine Row.alloc ?_ _) | (with_reducible refine Row.drew ?_) | (with_reducible refine Row.drewN ?_ _) | (with_reducible refine Row.other ?_ (by first | (simp; done) | (simp; omega) | omega) _) | (with_reducible refine Row.up ?_ (by with_reducible assumption)) | (with_reducible refine Row.chg ?_ (by with_reducible assumption) (by first | (simp; done) | (simp; omega)))))) hu2; have p0 := Rp.cell 0 rfl; have p1 := Rp.cell 1 rfl; have p2 := Rp.cell 2 rfl; have p3 := Rp.cell 3 rfl; have p4 := Rp.cell 4 rfl; have p5 := Rp.cell 5 rfl; have p6 := Rp.cell 6 rfl; have p7 := Rp.cell 7 rfl; have lp := Rp.lt)))
    go_ret
    exact ⟨rfl, by (repeat' (first | (with_reducible exact Up.refl _) | (with_reducible assumption) | (with_reducible refine Up.alloc ?_ _) | (with_reducible refine Up.drew ?_) | (with_reducible refine Up.drewN ?_ _) | (with_reducible refine Up.setCell ?_ ?_ _) | (with_reducible refine Up.call ?_ (by with_reducible assumption)) | go_size))⟩

theorem part_zero (b gl cap gi : Nat) (free : Int) (n : Nat) (cs : List Value) (l j m : Nat) (h2 : l ≤ n) (h3 : j + m ≤ l) (w : World) (h : ArrIs w b gl cap gi free n cs) :
    Calls Try.prog 9 #[.pointer (some ⟨b, 0, none⟩), .agg #[.int .i64 7, .bool false, .int .i64 0, .int .i64 0, .string ⟨#[]⟩, .int .i64 0, .int .i64 0, .int .i64 l], .int .i64 j, .int .i64 m] w fun E w' => E = .returned (.tuple #[.agg #[.int .i64 7, .bool false, .int .i64 0, .int .i64 0, .string ⟨#[]⟩, .int .i64 0, .int .i64 j, .int .i64 m], .int .i64 0]) ∧ Up w w' := by
  have := part_ok b gl cap gi free n cs 0 l j m (by omega) h3 w h
  rw [show (((0 : Nat) : Int) + j) = j by omega] at this
  exact this
theorem part_zbad (b gl cap gi : Nat) (free : Int) (n : Nat) (cs : List Value) (l j m : Nat) (h2 : l ≤ n) (h3 : l < j + m) (w : World) (h : ArrIs w b gl cap gi free n cs) :
    Calls Try.prog 9 #[.pointer (some ⟨b, 0, none⟩), .agg #[.int .i64 7, .bool false, .int .i64 0, .int .i64 0, .string ⟨#[]⟩, .int .i64 0, .int .i64 0, .int .i64 l], .int .i64 j, .int .i64 m] w fun E w' => E = .returned (.tuple #[.agg #[.int .i64 0, .bool false, .int .i64 0, .int .i64 0, .string ⟨#[]⟩, .int .i64 0, .int .i64 0, .int .i64 0], .int .i64 11]) ∧ Up w w' :=
  part_bad b gl cap gi free n cs 0 l j m (by omega) h3 w h
theorem part_at (b gl cap gi : Nat) (free : Int) (n : Nat) (cs : List Value) (f l j m d : Nat) (hd : f + j = d) (h2 : f + l ≤ n) (h3 : j + m ≤ l) (w : World) (h : ArrIs w b gl cap gi free n cs) :
    Calls Try.prog 9 #[.pointer (some ⟨b, 0, none⟩), .agg #[.int .i64 7, .bool false, .int .i64 0, .int .i64 0, .string ⟨#[]⟩, .int .i64 0, .int .i64 f, .int .i64 l], .int .i64 j, .int .i64 m] w fun E w' => E = .returned (.tuple #[.agg #[.int .i64 7, .bool false, .int .i64 0, .int .i64 0, .string ⟨#[]⟩, .int .i64 0, .int .i64 d, .int .i64 m], .int .i64 0]) ∧ Up w w' := by
  have := part_ok b gl cap gi free n cs f l j m h2 h3 w h
  rw [show ((f : Int) + j) = d by omega] at this
  exact this

/-- the items after k puts from d on -/
def itemsAt (n d k : Nat) : List (Int × Int) := (List.range n).map fun j => if d ≤ j ∧ j < d + k then (1, (j : Int) - d + 1) else (0, 0)
theorem itemsAt_length (n d k : Nat) : (itemsAt n d k).length = n := by simp [itemsAt]
theorem itemsAt_zero (n d : Nat) : itemsAt n d 0 = List.replicate n (0, 0) := by
  apply List.ext_getElem
  · simp [itemsAt]
  · intro i h1 h2
    simp only [itemsAt, List.getElem_map, List.getElem_range, List.getElem_replicate]
    rw [if_neg (by omega)]
theorem itemsAt_set (n d k : Nat) (h : d + k < n) : (itemsAt n d k).set (d + k) (1, (k : Int) + 1) = itemsAt n d (k + 1) := by
  apply List.ext_getElem
  · simp [itemsAt]
  · intro i h1 h2
    simp only [itemsAt, List.getElem_set, List.getElem_map, List.getElem_range]
    by_cases e : d + k = i
    · subst e
      rw [if_pos rfl, if_pos (by omega)]
      congr 1
      omega
    · rw [if_neg e]
      by_cases c : d ≤ i ∧ i < d + k
      · rw [if_pos c, if_pos (by omega)]
      · rw [if_neg c, if_neg (by omega)]
theorem itemsAt_N (n d k i : Nat) (hi : i < n) (x : Int) (hx : x = if d ≤ i ∧ i < d + k then (i : Int) - d + 1 else 0) : (cellsOf (itemsAt n d k))[i * 8 + 3]? = some (.int .i64 x) := by
  subst hx
  have e : (itemsAt n d k)[i]? = some (if d ≤ i ∧ i < d + k then (1, (i : Int) - d + 1) else (0, 0)) := by simp [itemsAt, hi]
  refine cellsOf_get _ i _ e 3 _ ?_
  split <;> rfl

end Go.Proofs.Ytcbelhfbdgkcoaa.St
