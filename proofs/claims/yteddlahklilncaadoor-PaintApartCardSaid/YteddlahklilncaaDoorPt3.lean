/- Which items of a page are sound: paint's letters, pen, clips and item, walked. Its condition: the fonts' names lie as they are laid. -/
import Derived.Test.YteddlahklilncaaDoorPt2
namespace Go.Proofs.YteddlahklilncaaDoor.Pt
open Go.ChangeShapes Go.WideShapes Go.ChangeAt Go.RowKit
open Go.Proofs.YteddlahklilncaaDoor.FixM (fits)
open Go.Proofs.YteddlahklilncaaDoor.PathM (Seg sound)
open Go.Proofs.YteddlahklilncaaDoor.MatM (M6)
set_option linter.unusedVariables false
set_option linter.unusedSimpArgs false

def idxG {α : Type} (p : α → Bool) (l : List α) : Int := if l.any p then (l.findIdx p : Int) else -1
theorem idxG_neg {α : Type} (p : α → Bool) (l : List α) : decide (0 ≤ idxG p l) = l.any p := by
  unfold idxG
  split
  · rename_i h; rw [h]; exact decide_eq_true (by omega)
  · rename_i h; simp at h ⊢; exact h
theorem idxG_hit {α : Type} {p : α → Bool} {l : List α} {k : Nat} {x : α} (hg : l[k]? = some x) (hn : (l.take k).any p = false) (hp : p x = true) : idxG p l = k := by
  obtain ⟨hlt, e⟩ := List.getElem?_eq_some_iff.1 hg
  have ha : l.any p = true := List.any_eq_true.2 ⟨x, List.mem_of_getElem? hg, hp⟩
  unfold idxG
  rw [if_pos ha]
  congr 1
  rw [List.findIdx_eq hlt]
  refine ⟨by rw [e]; exact hp, fun j hj => ?_⟩
  rw [List.any_eq_false] at hn
  have h2 := hn (l[j]'(by omega)) (List.mem_take_iff_getElem.2 ⟨j, by omega, rfl⟩)
  simpa using h2
theorem idxG_miss {α : Type} {p : α → Bool} {l : List α} {k : Nat} (hk : l.length ≤ k) (hn : (l.take k).any p = false) : idxG p l = -1 := by
  rw [List.take_of_length_le hk] at hn
  unfold idxG
  rw [hn]
  rfl
theorem any_step {α : Type} {p : α → Bool} {l : List α} {k : Nat} {x : α} (hg : l[k]? = some x) (hn : (l.take k).any p = false) (hp : p x = false) : (l.take (k + 1)).any p = false := by
  obtain ⟨hlt, e⟩ := List.getElem?_eq_some_iff.1 hg
  rw [List.take_succ_eq_append_getElem hlt, List.any_append, hn, e]
  simpa using hp
theorem all_step {α : Type} {p : α → Bool} {l : List α} {k : Nat} {x : α} (hg : l[k]? = some x) (hn : (l.take k).all p = true) (hp : p x = true) : (l.take (k + 1)).all p = true := by
  obtain ⟨hlt, e⟩ := List.getElem?_eq_some_iff.1 hg
  rw [List.take_succ_eq_append_getElem hlt, List.all_append, hn, e]
  simpa using hp
theorem sum_step {l : List Int} {k : Nat} {x : Int} (hg : l[k]? = some x) : (l.take (k + 1)).sum = (l.take k).sum + x := by
  obtain ⟨hlt, e⟩ := List.getElem?_eq_some_iff.1 hg
  rw [List.take_succ_eq_append_getElem hlt, List.sum_append, e]
  simp
theorem dash_sum : ∀ (l : List Int), l.all dashOk = true → 0 ≤ l.sum ∧ l.sum ≤ 2147483647 * l.length
  | [], _ => by simp
  | x :: l, h => by
    simp only [List.all_cons, Bool.and_eq_true] at h
    have h1 := dash_sum l h.2
    have h2 : 0 ≤ x ∧ x ≤ 2147483647 := by
      have := h.1
      simp only [dashOk, fits, Bool.and_eq_true, Bool.not_eq_true', decide_eq_false_iff_not, decide_eq_true_eq] at this
      omega
    simp only [List.sum_cons, List.length_cons]
    omega
theorem all_not {α : Type} (p : α → Bool) (l : List α) : l.all p = !l.any (fun x => !p x) := by
  induction l with
  | nil => rfl
  | cons x l ih => simp [ih]

set_option maxRecDepth 8000 in
set_option maxHeartbeats 1000000 in
theorem letters_calls (k : Int) (pa : Option Addr) (pl pc : Nat) (sp p0 p1 p2 p3 : Int) (ca : Option Addr) (cl cc : Nat) (wd cp jn mt : Int) (da : Option Addr) (dl dc : Nat) (ph fn : Int) (m : M6) (ba : Option Addr) (bl bc : Nat) (w : World) (hT : Font.Tab w) :
    Calls Tryd.prog 35 #[.agg #[.int .i64 k, .slice pa pl pc, .int .i64 sp, .int .i64 p0, .int .i64 p1, .int .i64 p2, .int .i64 p3, .slice ca cl cc, .int .i64 wd, .int .i64 cp, .int .i64 jn, .int .i64 mt, .slice da dl dc, .int .i64 ph, .int .i64 fn, .int .i64 m.a, .int .i64 m.b, .int .i64 m.c, .int .i64 m.d, .int .i64 m.x, .int .i64 m.y, .slice ba bl bc]] w fun E w' => E = .returned (.bool (lettersR fn m bl)) ∧ Up w w' := by
  have HT := Lib.hid hT
  clear hT
  obtain ⟨r, hr⟩ : ∃ r, ((lM m).any fun n => !fits n) = r := ⟨_, rfl⟩
  have HRR := Lib.hid hr
  by_cases hf : 0 ≤ fn ∧ fn < 14
  rotate_left
  · have H := Lib.hid (show lettersR fn m bl = false by simp only [lettersR, decide_eq_false hf, Bool.false_and])
    have HWL := Lib.hid (show (if 0 ≤ fn ∧ fn < 14 then Font.namesL.getD fn.toNat [] else []) = [] from if_neg hf)
    clear hf hr
    go_enter Tryd.func35, Tryd.ntmps35
    go_wp2_with (go_at_call 44; ((with_reducible refine (Font.name_calls _ _ (HT.out.up (by (repeat' (first | (with_reducible exact Up.refl _) | (with_reducible assumption) | (with_reducible refine Up.alloc ?_ _) | (with_reducible refine Up.drew ?_) | (with_reducible refine Up.drewN ?_ _) | (with_reducible refine Up.setCell ?_ ?_ _) | (with_reducible refine Up.call ?_ (by with_reducible assumption)) | go_size))))).mono ?_); rw [HWL.out]; rintro E w1 ⟨rfl, rfl⟩))
    go_ret
    exact ⟨by rw [H.out]; rfl, by (repeat' (first | (with_reducible exact Up.refl _) | (with_reducible assumption) | (with_reducible refine Up.alloc ?_ _) | (with_reducible refine Up.drew ?_) | (with_reducible refine Up.drewN ?_ _) | (with_reducible refine Up.setCell ?_ ?_ _) | (with_reducible refine Up.call ?_ (by with_reducible assumption)) | go_size))⟩
  obtain ⟨wl, hw, hne⟩ := names_some fn hf.1 hf.2
  have HWL := Lib.hid hw
  have h2 : wl.isEmpty = false := by simpa using hne
  have HF := Lib.hid hf
  clear hw hr hf
  obtain ⟨b_h3, h3⟩ : ∃ b, (decide ((1 : Int) ≤ (bl : Int))) = b := ⟨_, rfl⟩
  cases b_h3
  · have H := Lib.hid (show lettersR fn m bl = false by have h5 : decide (0 ≤ fn ∧ fn < 14) = true := decide_eq_true HF.out; have q3 : decide (1 ≤ bl) = decide ((1 : Int) ≤ (bl : Int)) := (by simp; omega); have q4 : decide (bl ≤ 65535) = decide ((bl : Int) ≤ 65535) := (by simp; omega); simp only [lettersR, h5, q3, q4, HRR.out, h3, Bool.true_and, Bool.false_and])
    go_enter Tryd.func35, Tryd.ntmps35
    go_wp2_with (first
      | (go_at_call 44; ((with_reducible refine (Font.name_calls _ _ (HT.out.up (by (repeat' (first | (with_reducible exact Up.refl _) | (with_reducible assumption) | (with_reducible refine Up.alloc ?_ _) | (with_reducible refine Up.drew ?_) | (with_reducible refine Up.drewN ?_ _) | (with_reducible refine Up.setCell ?_ ?_ _) | (with_reducible refine Up.call ?_ (by with_reducible assumption)) | go_size))))).mono ?_); rw [HWL.out]; rintro E w1 ⟨rfl, rfl⟩)))
    go_ret
    exact ⟨by rw [H.out]; rfl, by (repeat' (first | (with_reducible exact Up.refl _) | (with_reducible assumption) | (with_reducible refine Up.alloc ?_ _) | (with_reducible refine Up.drew ?_) | (with_reducible refine Up.drewN ?_ _) | (with_reducible refine Up.setCell ?_ ?_ _) | (with_reducible refine Up.call ?_ (by with_reducible assumption)) | go_size))⟩
  obtain ⟨b_h4, h4⟩ : ∃ b, (decide ((bl : Int) ≤ 65535)) = b := ⟨_, rfl⟩
  cases b_h4
  · have H := Lib.hid (show lettersR fn m bl = false by have h5 : decide (0 ≤ fn ∧ fn < 14) = true := decide_eq_true HF.out; have q3 : decide (1 ≤ bl) = decide ((1 : Int) ≤ (bl : Int)) := (by simp; omega); have q4 : decide (bl ≤ 65535) = decide ((bl : Int) ≤ 65535) := (by simp; omega); simp only [lettersR, h5, q3, q4, HRR.out, h3, h4, Bool.true_and, Bool.false_and])
    go_enter Tryd.func35, Tryd.ntmps35
    go_wp2_with (first
      | (go_at_call 44; ((with_reducible refine (Font.name_calls _ _ (HT.out.up (by (repeat' (first | (with_reducible exact Up.refl _) | (with_reducible assumption) | (with_reducible refine Up.alloc ?_ _) | (with_reducible refine Up.drew ?_) | (with_reducible refine Up.drewN ?_ _) | (with_reducible refine Up.setCell ?_ ?_ _) | (with_reducible refine Up.call ?_ (by with_reducible assumption)) | go_size))))).mono ?_); rw [HWL.out]; rintro E w1 ⟨rfl, rfl⟩)))
    go_ret
    exact ⟨by rw [H.out]; rfl, by (repeat' (first | (with_reducible exact Up.refl _) | (with_reducible assumption) | (with_reducible refine Up.alloc ?_ _) | (with_reducible refine Up.drew ?_) | (with_reducible refine Up.drewN ?_ _) | (with_reducible refine Up.setCell ?_ ?_ _) | (with_reducible refine Up.call ?_ (by with_reducible assumption)) | go_size))⟩
  have H := Lib.hid (show lettersR fn m bl = (!r) by have h5 : decide (0 ≤ fn ∧ fn < 14) = true := decide_eq_true HF.out; have q3 : decide (1 ≤ bl) = decide ((1 : Int) ≤ (bl : Int)) := (by simp; omega); have q4 : decide (bl ≤ 65535) = decide ((bl : Int) ≤ 65535) := (by simp; omega); simp only [lettersR, h5, q3, q4, HRR.out, h3, h4, Bool.true_and, Bool.false_and])
  go_enter Tryd.func35, Tryd.ntmps35
  go_wp2_with (first
    | (go_at_call 44; ((with_reducible refine (Font.name_calls _ _ (HT.out.up (by (repeat' (first | (with_reducible exact Up.refl _) | (with_reducible assumption) | (with_reducible refine Up.alloc ?_ _) | (with_reducible refine Up.drew ?_) | (with_reducible refine Up.drewN ?_ _) | (with_reducible refine Up.setCell ?_ ?_ _) | (with_reducible refine Up.call ?_ (by with_reducible assumption)) | go_size))))).mono ?_); rw [HWL.out]; rintro E w1 ⟨rfl, rfl⟩))
    | (go_at_call 45; ((with_reducible refine (contains_letters6 m w.heap.size _ _ (ints_mid (show Row _ w.heap.size #[.int .i64 k, .slice pa pl pc, .int .i64 sp, .int .i64 p0, .int .i64 p1, .int .i64 p2, .int .i64 p3, .slice ca cl cc, .int .i64 wd, .int .i64 cp, .int .i64 jn, .int .i64 mt, .slice da dl dc, .int .i64 ph, .int .i64 fn, .int .i64 m.a, .int .i64 m.b, .int .i64 m.c, .int .i64 m.d, .int .i64 m.x, .int .i64 m.y, .slice ba bl bc] by (repeat' (first | (with_reducible assumption) | (with_reducible refine Row.at _ _ ?_; (simp; done)) | (with_reducible refine Row.alloc ?_ _) | (with_reducible refine Row.drew ?_) | (with_reducible refine Row.drewN ?_ _) | (with_reducible refine Row.other ?_ (by first | (simp; done) | (simp; omega) | omega) _) | (with_reducible refine Row.up ?_ (by with_reducible assumption)) | (with_reducible refine Row.chg ?_ (by with_reducible assumption) (by first | (simp; done) | (simp; omega)))))) rfl rfl rfl rfl rfl rfl) (by simp)).mono ?_); rw [HRR.out]; rintro E w2 ⟨rfl, hu2⟩)))
  go_ret
  exact ⟨by rw [H.out]; rfl, by (repeat' (first | (with_reducible exact Up.refl _) | (with_reducible assumption) | (with_reducible refine Up.alloc ?_ _) | (with_reducible refine Up.drew ?_) | (with_reducible refine Up.drewN ?_ _) | (with_reducible refine Up.setCell ?_ ?_ _) | (with_reducible refine Up.call ?_ (by with_reducible assumption)) | go_size))⟩

theorem ints_some {k : IntKind} {w : World} {a : Option Addr} {N c : Nat} {zs : List Int} (h : Ints k w (.slice a N c) zs) (hN : zs.length = N) (h0 : 0 < N) : ∃ g o, a = some ⟨g, o, none⟩ ∧ g < w.heap.size ∧ ∀ i, i < N → w.cell? ⟨g, o + i, none⟩ = some (.int k (zs.getD i 0)) := by
  obtain ⟨ao, c', e, hl, hm, hno, h1, hw⟩ := h
  injection e with e1 e2 e3
  subst e1 e3
  obtain ⟨g, o, h2, h3, h4⟩ := h1 (by omega)
  exact ⟨g, o, h2, h3, fun i hi => h4 i (by omega)⟩
set_option maxRecDepth 8000 in
set_option maxHeartbeats 4000000 in
theorem pen_calls (wd cp jn mt ph : Int) (da : Option Addr) (dl dc : Nat) (ds : List Int) (w : World) (hN : ds.length = dl) (hd : Ints .i64 w (.slice da dl dc) ds) :
    Calls Tryd.prog 38 #[.agg #[.int .i64 wd, .int .i64 cp, .int .i64 jn, .int .i64 mt, .slice da dl dc, .int .i64 ph]] w fun E w' => E = .returned (.bool (penR wd cp jn mt ds ph)) ∧ Up w w' := by
  have HN := Lib.hid hN
  have HD := Lib.hid hd
  clear hN hd
  obtain ⟨b_h1, h1⟩ : ∃ b, (decide (wd < 0)) = b := ⟨_, rfl⟩
  cases b_h1
  rotate_left
  · have H := Lib.hid (show penR wd cp jn mt ds ph = false by have e : penB wd cp jn mt ds.length ph = true := (by simp only [penB, HN.out, h1]; simp); simp only [penR, e, Bool.not_true, Bool.false_and])
    go_enter Tryd.func38, Tryd.ntmps38
    go_wp2_with (go_at_call 47; ((with_reducible refine (Fix.fits_calls _ _).mono ?_); rintro e w' ⟨rfl, rfl⟩))
    go_ret
    exact ⟨by rw [H.out]; rfl, by (repeat' (first | (with_reducible exact Up.refl _) | (with_reducible assumption) | (with_reducible refine Up.alloc ?_ _) | (with_reducible refine Up.drew ?_) | (with_reducible refine Up.drewN ?_ _) | (with_reducible refine Up.setCell ?_ ?_ _) | (with_reducible refine Up.call ?_ (by with_reducible assumption)) | go_size))⟩
  obtain ⟨b_h2, h2⟩ : ∃ b, (fits wd) = b := ⟨_, rfl⟩
  cases b_h2
  · have H := Lib.hid (show penR wd cp jn mt ds ph = false by have e : penB wd cp jn mt ds.length ph = true := (by simp only [penB, HN.out, h1, h2]; simp); simp only [penR, e, Bool.not_true, Bool.false_and])
    go_enter Tryd.func38, Tryd.ntmps38
    go_wp2_with (go_at_call 47; ((with_reducible refine (Fix.fits_calls _ _).mono ?_); rintro e w' ⟨rfl, rfl⟩))
    go_ret
    exact ⟨by rw [H.out]; rfl, by (repeat' (first | (with_reducible exact Up.refl _) | (with_reducible assumption) | (with_reducible refine Up.alloc ?_ _) | (with_reducible refine Up.drew ?_) | (with_reducible refine Up.drewN ?_ _) | (with_reducible refine Up.setCell ?_ ?_ _) | (with_reducible refine Up.call ?_ (by with_reducible assumption)) | go_size))⟩
  obtain ⟨b_h3, h3⟩ : ∃ b, (decide (cp < 0)) = b := ⟨_, rfl⟩
  cases b_h3
  rotate_left
  · have H := Lib.hid (show penR wd cp jn mt ds ph = false by have e : penB wd cp jn mt ds.length ph = true := (by simp only [penB, HN.out, h1, h2, h3]; simp); simp only [penR, e, Bool.not_true, Bool.false_and])
    go_enter Tryd.func38, Tryd.ntmps38
    go_wp2_with (go_at_call 47; ((with_reducible refine (Fix.fits_calls _ _).mono ?_); rintro e w' ⟨rfl, rfl⟩))
    go_ret
    exact ⟨by rw [H.out]; rfl, by (repeat' (first | (with_reducible exact Up.refl _) | (with_reducible assumption) | (with_reducible refine Up.alloc ?_ _) | (with_reducible refine Up.drew ?_) | (with_reducible refine Up.drewN ?_ _) | (with_reducible refine Up.setCell ?_ ?_ _) | (with_reducible refine Up.call ?_ (by with_reducible assumption)) | go_size))⟩
  obtain ⟨b_h4, h4⟩ : ∃ b, (decide (2 < cp)) = b := ⟨_, rfl⟩
  cases b_h4
  rotate_left
  · have H := Lib.hid (show penR wd cp jn mt ds ph = false by have e : penB wd cp jn mt ds.length ph = true := (by simp only [penB, HN.out, h1, h2, h3, h4]; simp); simp only [penR, e, Bool.not_true, Bool.false_and])
    go_enter Tryd.func38, Tryd.ntmps38
    go_wp2_with (go_at_call 47; ((with_reducible refine (Fix.fits_calls _ _).mono ?_); rintro e w' ⟨rfl, rfl⟩))
    go_ret
    exact ⟨by rw [H.out]; rfl, by (repeat' (first | (with_reducible exact Up.refl _) | (with_reducible assumption) | (with_reducible refine Up.alloc ?_ _) | (with_reducible refine Up.drew ?_) | (with_reducible refine Up.drewN ?_ _) | (with_reducible refine Up.setCell ?_ ?_ _) | (with_reducible refine Up.call ?_ (by with_reducible assumption)) | go_size))⟩
  obtain ⟨b_h5, h5⟩ : ∃ b, (decide (jn < 0)) = b := ⟨_, rfl⟩
  cases b_h5
  rotate_left
  · have H := Lib.hid (show penR wd cp jn mt ds ph = false by have e : penB wd cp jn mt ds.length ph = true := (by simp only [penB, HN.out, h1, h2, h3, h4, h5]; simp); simp only [penR, e, Bool.not_true, Bool.false_and])
    go_enter Tryd.func38, Tryd.ntmps38
    go_wp2_with (go_at_call 47; ((with_reducible refine (Fix.fits_calls _ _).mono ?_); rintro e w' ⟨rfl, rfl⟩))
    go_ret
    exact ⟨by rw [H.out]; rfl, by (repeat' (first | (with_reducible exact Up.refl _) | (with_reducible assumption) | (with_reducible refine Up.alloc ?_ _) | (with_reducible refine Up.drew ?_) | (with_reducible refine Up.drewN ?_ _) | (with_reducible refine Up.setCell ?_ ?_ _) | (with_reducible refine Up.call ?_ (by with_reducible assumption)) | go_size))⟩
  obtain ⟨b_h6, h6⟩ : ∃ b, (decide (2 < jn)) = b := ⟨_, rfl⟩
  cases b_h6
  rotate_left
  · have H := Lib.hid (show penR wd cp jn mt ds ph = false by have e : penB wd cp jn mt ds.length ph = true := (by simp only [penB, HN.out, h1, h2, h3, h4, h5, h6]; simp); simp only [penR, e, Bool.not_true, Bool.false_and])
    go_enter Tryd.func38, Tryd.ntmps38
    go_wp2_with (go_at_call 47; ((with_reducible refine (Fix.fits_calls _ _).mono ?_); rintro e w' ⟨rfl, rfl⟩))
    go_ret
    exact ⟨by rw [H.out]; rfl, by (repeat' (first | (with_reducible exact Up.refl _) | (with_reducible assumption) | (with_reducible refine Up.alloc ?_ _) | (with_reducible refine Up.drew ?_) | (with_reducible refine Up.drewN ?_ _) | (with_reducible refine Up.setCell ?_ ?_ _) | (with_reducible refine Up.call ?_ (by with_reducible assumption)) | go_size))⟩
  obtain ⟨b_h7, h7⟩ : ∃ b, (decide (mt < 65536)) = b := ⟨_, rfl⟩
  cases b_h7
  rotate_left
  · have H := Lib.hid (show penR wd cp jn mt ds ph = false by have e : penB wd cp jn mt ds.length ph = true := (by simp only [penB, HN.out, h1, h2, h3, h4, h5, h6, h7]; simp); simp only [penR, e, Bool.not_true, Bool.false_and])
    go_enter Tryd.func38, Tryd.ntmps38
    go_wp2_with (go_at_call 47; ((with_reducible refine (Fix.fits_calls _ _).mono ?_); rintro e w' ⟨rfl, rfl⟩))
    go_ret
    exact ⟨by rw [H.out]; rfl, by (repeat' (first | (with_reducible exact Up.refl _) | (with_reducible assumption) | (with_reducible refine Up.alloc ?_ _) | (with_reducible refine Up.drew ?_) | (with_reducible refine Up.drewN ?_ _) | (with_reducible refine Up.setCell ?_ ?_ _) | (with_reducible refine Up.call ?_ (by with_reducible assumption)) | go_size))⟩
  obtain ⟨b_h8, h8⟩ : ∃ b, (fits mt) = b := ⟨_, rfl⟩
  cases b_h8
  · have H := Lib.hid (show penR wd cp jn mt ds ph = false by have e : penB wd cp jn mt ds.length ph = true := (by simp only [penB, HN.out, h1, h2, h3, h4, h5, h6, h7, h8]; simp); simp only [penR, e, Bool.not_true, Bool.false_and])
    go_enter Tryd.func38, Tryd.ntmps38
    go_wp2_with (go_at_call 47; ((with_reducible refine (Fix.fits_calls _ _).mono ?_); rintro e w' ⟨rfl, rfl⟩))
    go_ret
    exact ⟨by rw [H.out]; rfl, by (repeat' (first | (with_reducible exact Up.refl _) | (with_reducible assumption) | (with_reducible refine Up.alloc ?_ _) | (with_reducible refine Up.drew ?_) | (with_reducible refine Up.drewN ?_ _) | (with_reducible refine Up.setCell ?_ ?_ _) | (with_reducible refine Up.call ?_ (by with_reducible assumption)) | go_size))⟩
  obtain ⟨b_h9, h9⟩ : ∃ b, (decide (ph < 0)) = b := ⟨_, rfl⟩
  cases b_h9
  rotate_left
  · have H := Lib.hid (show penR wd cp jn mt ds ph = false by have e : penB wd cp jn mt ds.length ph = true := (by simp only [penB, HN.out, h1, h2, h3, h4, h5, h6, h7, h8, h9]; simp); simp only [penR, e, Bool.not_true, Bool.false_and])
    go_enter Tryd.func38, Tryd.ntmps38
    go_wp2_with (go_at_call 47; ((with_reducible refine (Fix.fits_calls _ _).mono ?_); rintro e w' ⟨rfl, rfl⟩))
    go_ret
    exact ⟨by rw [H.out]; rfl, by (repeat' (first | (with_reducible exact Up.refl _) | (with_reducible assumption) | (with_reducible refine Up.alloc ?_ _) | (with_reducible refine Up.drew ?_) | (with_reducible refine Up.drewN ?_ _) | (with_reducible refine Up.setCell ?_ ?_ _) | (with_reducible refine Up.call ?_ (by with_reducible assumption)) | go_size))⟩
  obtain ⟨b_h10, h10⟩ : ∃ b, (fits ph) = b := ⟨_, rfl⟩
  cases b_h10
  · have H := Lib.hid (show penR wd cp jn mt ds ph = false by have e : penB wd cp jn mt ds.length ph = true := (by simp only [penB, HN.out, h1, h2, h3, h4, h5, h6, h7, h8, h9, h10]; simp); simp only [penR, e, Bool.not_true, Bool.false_and])
    go_enter Tryd.func38, Tryd.ntmps38
    go_wp2_with (go_at_call 47; ((with_reducible refine (Fix.fits_calls _ _).mono ?_); rintro e w' ⟨rfl, rfl⟩))
    go_ret
    exact ⟨by rw [H.out]; rfl, by (repeat' (first | (with_reducible exact Up.refl _) | (with_reducible assumption) | (with_reducible refine Up.alloc ?_ _) | (with_reducible refine Up.drew ?_) | (with_reducible refine Up.drewN ?_ _) | (with_reducible refine Up.setCell ?_ ?_ _) | (with_reducible refine Up.call ?_ (by with_reducible assumption)) | go_size))⟩
  obtain ⟨b_h11, h11⟩ : ∃ b, (decide ((11 : Int) < (dl : Int))) = b := ⟨_, rfl⟩
  cases b_h11
  rotate_left
  · have H := Lib.hid (show penR wd cp jn mt ds ph = false by have e : penB wd cp jn mt ds.length ph = true := (by simp only [penB, HN.out, h1, h2, h3, h4, h5, h6, h7, h8, h9, h10, h11]; simp); simp only [penR, e, Bool.not_true, Bool.false_and])
    go_enter Tryd.func38, Tryd.ntmps38
    go_wp2_with (go_at_call 47; ((with_reducible refine (Fix.fits_calls _ _).mono ?_); rintro e w' ⟨rfl, rfl⟩))
    go_ret
    exact ⟨by rw [H.out]; rfl, by (repeat' (first | (with_reducible exact Up.refl _) | (with_reducible assumption) | (with_reducible refine Up.alloc ?_ _) | (with_reducible refine Up.drew ?_) | (with_reducible refine Up.drewN ?_ _) | (with_reducible refine Up.setCell ?_ ?_ _) | (with_reducible refine Up.call ?_ (by with_reducible assumption)) | go_size))⟩
  have HB := Lib.hid (show penB wd cp jn mt ds.length ph = false by simp only [penB, HN.out, h1, h2, h3, h4, h5, h6, h7, h8, h9, h10, h11]; simp)
  have hd11 : dl ≤ 11 := by have := h11; simp at this; omega
  have HZD := Lib.hid (show (dl == 0) = ((dl : Int) == 0) by cases dl <;> simp <;> omega)
  go_enter Tryd.func38, Tryd.ntmps38
  go_wp2_with (go_at_call 47; ((with_reducible refine (Fix.fits_calls _ _).mono ?_); rintro e w' ⟨rfl, rfl⟩))
  go_loop [3, 66] (fun s3 s66 => ∃ k : Nat, k ≤ dl ∧ s3 = .int .i64 (ds.take k).sum ∧ s66 = .int .i64 k ∧ Hid ((ds.take k).all dashOk = true)) (fun _ s66 => dl - (intOf s66).toNat)
  case atStart => exact ⟨0, Nat.zero_le _, by simp, rfl, Lib.hid (by simp)⟩
  case round =>
    obtain ⟨k, hk, rfl, rfl, HA⟩ := hrel
    obtain ⟨S, hS⟩ : ∃ S, (ds.take k).sum = S := ⟨_, rfl⟩
    rw [hS]
    have HSB := Lib.hid (show 0 ≤ S ∧ S ≤ 2147483647 * 11 by
      have h1 := dash_sum _ HA.out
      rw [hS] at h1
      have h2 : (ds.take k).length ≤ 11 := by rw [List.length_take]; omega
      constructor
      · exact h1.1
      · have : (2147483647 : Int) * ((ds.take k).length : Int) ≤ 2147483647 * 11 := by omega
        omega)
    have HS := Lib.hid hS
    clear hS
    by_cases hlt : k < dl
    · obtain ⟨x, hx⟩ : ∃ x, ds[k]? = some x := ⟨_, List.getElem?_eq_getElem (by have := HN.out; omega)⟩
      obtain ⟨gb, ob, rfl, hgb, hcb⟩ := ints_some HD.out HN.out (by omega)
      have hq : w.cell? ⟨gb, ob + k, none⟩ = some (.int .i64 x) := by
        rw [hcb k hlt]
        have : ds.getD k 0 = x := by rw [List.getD_eq_getElem?_getD, hx]; rfl
        rw [this]
      have hgb1 : gb < w.heap.size + 1 := by omega
      have HX := Lib.hid hx
      have hcast : decide ((k : Int) < (dl : Int)) = true := decide_eq_true (by omega)
      clear hx hcb
      have bad : dashOk x = false → Hid (penR wd cp jn mt ds ph = false) := fun h => Lib.hid (by
        have e : ds.all dashOk = false := by
          rw [List.all_eq_false]
          exact ⟨x, List.mem_of_getElem? HX.out, by simp [h]⟩
        simp [penR, e])
      have HBAD := Lib.hid bad
      clear bad
      obtain ⟨b1, q1⟩ : ∃ b, decide (x < 0) = b := ⟨_, rfl⟩
      cases b1
      rotate_left
      · have H := HBAD.out (by simp [dashOk, q1])
        go_wp2_with (go_at_call 47; ((with_reducible refine (Fix.fits_calls _ _).mono ?_); rintro e w' ⟨rfl, rfl⟩))
        go_ret
        exact ⟨by rw [H.out]; rfl, by (repeat' (first | (with_reducible exact Up.refl _) | (with_reducible assumption) | (with_reducible refine Up.alloc ?_ _) | (with_reducible refine Up.drew ?_) | (with_reducible refine Up.drewN ?_ _) | (with_reducible refine Up.setCell ?_ ?_ _) | (with_reducible refine Up.call ?_ (by with_reducible assumption)) | go_size))⟩
      obtain ⟨b2, q2⟩ : ∃ b, fits x = b := ⟨_, rfl⟩
      cases b2
      · have H := HBAD.out (by simp [dashOk, q1, q2])
        go_wp2_with (go_at_call 47; ((with_reducible refine (Fix.fits_calls _ _).mono ?_); rintro e w' ⟨rfl, rfl⟩))
        go_ret
        exact ⟨by rw [H.out]; rfl, by (repeat' (first | (with_reducible exact Up.refl _) | (with_reducible assumption) | (with_reducible refine Up.alloc ?_ _) | (with_reducible refine Up.drew ?_) | (with_reducible refine Up.drewN ?_ _) | (with_reducible refine Up.setCell ?_ ?_ _) | (with_reducible refine Up.call ?_ (by with_reducible assumption)) | go_size))⟩
      have HOK := Lib.hid (show dashOk x = true by simp [dashOk, q1, q2])
      have hw : IntKind.i64.wrap (S + x) = S + x := by
        have h1 := HSB.out
        have h2 : x ≤ 2147483647 := by have := q2; simp only [fits, Bool.and_eq_true, decide_eq_true_eq] at this; omega
        have h3 : 0 ≤ x := by have := q1; simp at this; omega
        exact wrap_small (by omega) (by omega)
      go_wp2_with (go_at_call 47; ((with_reducible refine (Fix.fits_calls _ _).mono ?_); rintro e w' ⟨rfl, rfl⟩))
      go_roundw
      case rel => exact ⟨k + 1, by omega, by rw [sum_step HX.out, HS.out], by go_num, Lib.hid (all_step HX.out HA.out HOK.out)⟩
      case measure => simp [intOf]; omega
    · have hcast : decide ((k : Int) < (dl : Int)) = false := decide_eq_false (by omega)
      have HALL := Lib.hid (show ds.all dashOk = true by have := HA.out; rwa [List.take_of_length_le (by have := HN.out; omega)] at this)
      have HSUM := Lib.hid (show ds.sum = S by have := HS.out; rwa [List.take_of_length_le (by have := HN.out; omega)] at this)
      have HR := Lib.hid (show penR wd cp jn mt ds ph = (((dl : Int) == 0) || decide (0 < S)) by have h1 := HB.out; rw [HN.out] at h1; simp only [penR, HN.out, h1, HALL.out, HSUM.out, Bool.not_false, Bool.true_and]; rw [HZD.out])
      obtain ⟨b1, q1⟩ : ∃ b, ((dl : Int) == 0) = b := ⟨_, rfl⟩
      have Q1 := Lib.hid q1
      obtain ⟨b2, q2⟩ : ∃ b, decide (0 < S) = b := ⟨_, rfl⟩
      have Q2 := Lib.hid q2
      cases b1
      · go_wp2
        go_ret
        exact ⟨by rw [HR.out, Q1.out, Q2.out]; rfl, by (repeat' (first | (with_reducible exact Up.refl _) | (with_reducible assumption) | (with_reducible refine Up.alloc ?_ _) | (with_reducible refine Up.drew ?_) | (with_reducible refine Up.drewN ?_ _) | (with_reducible refine Up.setCell ?_ ?_ _) | (with_reducible refine Up.call ?_ (by with_reducible assumption)) | go_size))⟩
      · go_wp2
        go_ret
        exact ⟨by rw [HR.out, Q1.out]; rfl, by (repeat' (first | (with_reducible exact Up.refl _) | (with_reducible assumption) | (with_reducible refine Up.alloc ?_ _) | (with_reducible refine Up.drew ?_) | (with_reducible refine Up.drewN ?_ _) | (with_reducible refine Up.setCell ?_ ?_ _) | (with_reducible refine Up.call ?_ (by with_reducible assumption)) | go_size))⟩

theorem clip1_calls (v : Value) (l : List Seg) (eo : Bool) (w : World) (h : Path.SegV w v l) :
    Calls Tryd.prog 43 #[.agg #[v, .bool eo]] w fun E w' => E = .returned (.bool (!clipOk ⟨v, l, eo⟩)) ∧ Up w w' := by
  have H := Lib.hid h
  obtain ⟨a, n, c, rfl, hn⟩ : ∃ a n c, v = .slice a n c ∧ n = l.length := by
    rcases h with ⟨a, cap, rfl, rfl⟩ | ⟨b, o, cap, rfl, h0, _⟩
    · exact ⟨_, _, _, rfl, rfl⟩
    · exact ⟨_, _, _, rfl, rfl⟩
  have HN := Lib.hid hn
  clear h hn
  obtain ⟨b1, q1⟩ : ∃ b, ((n : Int) == 0) = b := ⟨_, rfl⟩
  have HQ := Lib.hid (show (l.length == 0) = b1 by rw [← HN.out, ← q1]; cases n <;> simp <;> omega)
  cases b1
  · go_enter Tryd.func43, Tryd.ntmps43
    go_wp2_with (go_at_call 37; ((with_reducible refine (Path.sound_calls _ l _ (H.out.up (by (repeat' (first | (with_reducible exact Up.refl _) | (with_reducible assumption) | (with_reducible refine Up.alloc ?_ _) | (with_reducible refine Up.drew ?_) | (with_reducible refine Up.drewN ?_ _) | (with_reducible refine Up.setCell ?_ ?_ _) | (with_reducible refine Up.call ?_ (by with_reducible assumption)) | go_size))))).mono ?_); rintro E w1 ⟨rfl, hu1⟩))
    go_ret
    exact ⟨by simp [clipOk, HQ.out], by (repeat' (first | (with_reducible exact Up.refl _) | (with_reducible assumption) | (with_reducible refine Up.alloc ?_ _) | (with_reducible refine Up.drew ?_) | (with_reducible refine Up.drewN ?_ _) | (with_reducible refine Up.setCell ?_ ?_ _) | (with_reducible refine Up.call ?_ (by with_reducible assumption)) | go_size))⟩
  · go_enter Tryd.func43, Tryd.ntmps43
    go_wp2
    go_ret
    exact ⟨by simp [clipOk, HQ.out], by (repeat' (first | (with_reducible exact Up.refl _) | (with_reducible assumption) | (with_reducible refine Up.alloc ?_ _) | (with_reducible refine Up.drew ?_) | (with_reducible refine Up.drewN ?_ _) | (with_reducible refine Up.setCell ?_ ?_ _) | (with_reducible refine Up.call ?_ (by with_reducible assumption)) | go_size))⟩
theorem index_clips (l : List Clip) (a : Option Addr) (n c : Nat) (w : World) (h : Sl 2 Clip.cells w a n c l) (hs : ∀ c ∈ l, Path.SegV w c.v c.l) (hl : n ≤ 1000) :
    Calls Tryd.prog 56 #[.slice a n c, .func (.func 43) #[] #[]] w fun e w' => e = .returned (.int .i64 (idxG (fun c => !clipOk c) l)) ∧ Up w w' := by
  obtain ⟨h1, h2, h3, h4, h5⟩ := h
  have HN := Lib.hid h3
  have HC := Lib.hid h5
  have HS := Lib.hid hs
  clear h3 h5 hs h4
  go_enter Tryd.func56, Tryd.ntmps56
  go_wp2
  go_loopw [8] (fun i wr => ∃ k : Nat, k ≤ n ∧ i = .int .i64 k ∧ Hid ((l.take k).any (fun c => !clipOk c) = false) ∧ Up w wr) (fun i _ => n - (intOf i).toNat)
  case atStart => exact ⟨0, Nat.zero_le _, rfl, Lib.hid (by simp), Up.refl _⟩
  case round =>
    obtain ⟨k, hk, rfl, HNO, hup⟩ := hrel
    by_cases hlt : k < n
    · obtain ⟨⟨v, sl, eo⟩, hx⟩ : ∃ x, l[k]? = some x := ⟨_, List.getElem?_eq_getElem (by have := HN.out; omega)⟩
      obtain ⟨b, o, rfl, hb, hc⟩ := HC.out (by omega)
      have hc0 := hc k _ 0 _ hx rfl
      have hc1 := hc k _ 1 _ hx rfl
      simp only [Clip.cells, Nat.add_zero] at hc0 hc1
      have hq0 := (hup.cells.1 b _ hb).trans hc0
      have hq1 := (hup.cells.1 b _ hb).trans hc1
      have hz := hup.size
      have HSV := Lib.hid ((HS.out _ (List.mem_of_getElem? hx)).up hup)
      have HX := Lib.hid hx
      have hcast : decide ((k : Int) < (n : Int)) = true := decide_eq_true (by omega)
      clear hc0 hc1 hc hx
      obtain ⟨t, ht⟩ : ∃ t, (!clipOk ⟨v, sl, eo⟩) = t := ⟨_, rfl⟩
      have HT := Lib.hid ht
      clear ht
      cases t
      · go_wp2_with (go_at_call 43; ((with_reducible refine (clip1_calls v sl eo _ HSV.out).mono ?_); rw [HT.out]; rintro E w1 ⟨rfl, hu1⟩))
        go_roundw
        case rel => exact ⟨k + 1, by omega, by go_num, Lib.hid (any_step HX.out HNO.out HT.out), by (repeat' (first | (with_reducible exact Up.refl _) | (with_reducible assumption) | (with_reducible refine Up.alloc ?_ _) | (with_reducible refine Up.drew ?_) | (with_reducible refine Up.drewN ?_ _) | (with_reducible refine Up.setCell ?_ ?_ _) | (with_reducible refine Up.call ?_ (by with_reducible assumption)) | go_size))⟩
        case measure => simp [intOf]; omega
      · have HE := Lib.hid (idxG_hit HX.out HNO.out HT.out)
        go_wp2_with (go_at_call 43; ((with_reducible refine (clip1_calls v sl eo _ HSV.out).mono ?_); rw [HT.out]; rintro E w1 ⟨rfl, hu1⟩))
        go_ret
        exact ⟨by rw [HE.out]; rfl, by (repeat' (first | (with_reducible exact Up.refl _) | (with_reducible assumption) | (with_reducible refine Up.alloc ?_ _) | (with_reducible refine Up.drew ?_) | (with_reducible refine Up.drewN ?_ _) | (with_reducible refine Up.setCell ?_ ?_ _) | (with_reducible refine Up.call ?_ (by with_reducible assumption)) | go_size))⟩
    · have HE := Lib.hid (idxG_miss (by have := HN.out; omega) HNO.out)
      have hcast : decide ((k : Int) < (n : Int)) = false := decide_eq_false (by omega)
      go_wp2
      go_ret
      exact ⟨by rw [HE.out]; rfl, by (repeat' (first | (with_reducible exact Up.refl _) | (with_reducible assumption) | (with_reducible refine Up.alloc ?_ _) | (with_reducible refine Up.drew ?_) | (with_reducible refine Up.drewN ?_ _) | (with_reducible refine Up.setCell ?_ ?_ _) | (with_reducible refine Up.call ?_ (by with_reducible assumption)) | go_size))⟩
theorem contains_clips (l : List Clip) (a : Option Addr) (n c : Nat) (w : World) (h : Sl 2 Clip.cells w a n c l) (hs : ∀ c ∈ l, Path.SegV w c.v c.l) (hl : n ≤ 1000) :
    Calls Tryd.prog 42 #[.slice a n c, .func (.func 43) #[] #[]] w fun e w' => e = .returned (.bool (l.any (fun c => !clipOk c))) ∧ Up w w' := by
  have HI := Lib.hid (idxG_neg (fun c => !clipOk c) l)
  have H := Lib.hid h
  have HS := Lib.hid hs
  clear h hs
  go_enter Tryd.func42, Tryd.ntmps42
  go_wp2_with (go_at_call 56; ((with_reducible refine (index_clips l a n c _ H.out HS.out hl).mono ?_); rintro E w1 ⟨rfl, hu1⟩))
  go_ret
  exact ⟨by rw [← HI.out]; rfl, by (repeat' (first | (with_reducible exact Up.refl _) | (with_reducible assumption) | (with_reducible refine Up.alloc ?_ _) | (with_reducible refine Up.drew ?_) | (with_reducible refine Up.drewN ?_ _) | (with_reducible refine Up.setCell ?_ ?_ _) | (with_reducible refine Up.call ?_ (by with_reducible assumption)) | go_size))⟩
theorem clips_calls (l : List Clip) (a : Option Addr) (n c : Nat) (w : World) (h : Sl 2 Clip.cells w a n c l) (hs : ∀ c ∈ l, Path.SegV w c.v c.l) :
    Calls Tryd.prog 34 #[.slice a n c] w fun e w' => e = .returned (.bool (clipsR l)) ∧ Up w w' := by
  have HN := Lib.hid h.2.2.1
  have H := Lib.hid h
  have HS := Lib.hid hs
  clear h hs
  by_cases h16 : n ≤ 16
  · have hcast : decide ((n : Int) ≤ 16) = true := decide_eq_true (by omega)
    have HR := Lib.hid (show clipsR l = !l.any (fun c => !clipOk c) by rw [clipsR, all_not, HN.out, decide_eq_true h16, Bool.true_and])
    go_enter Tryd.func34, Tryd.ntmps34
    go_wp2_with (go_at_call 42; ((with_reducible refine (contains_clips l a n c _ H.out HS.out (by omega)).mono ?_); rintro E w1 ⟨rfl, hu1⟩))
    go_ret
    exact ⟨by rw [HR.out]; rfl, by (repeat' (first | (with_reducible exact Up.refl _) | (with_reducible assumption) | (with_reducible refine Up.alloc ?_ _) | (with_reducible refine Up.drew ?_) | (with_reducible refine Up.drewN ?_ _) | (with_reducible refine Up.setCell ?_ ?_ _) | (with_reducible refine Up.call ?_ (by with_reducible assumption)) | go_size))⟩
  · have hcast : decide ((n : Int) ≤ 16) = false := decide_eq_false (by omega)
    have HR := Lib.hid (show clipsR l = false by rw [clipsR, HN.out, decide_eq_false h16, Bool.false_and])
    go_enter Tryd.func34, Tryd.ntmps34
    go_wp2
    go_ret
    exact ⟨by rw [HR.out]; rfl, by (repeat' (first | (with_reducible exact Up.refl _) | (with_reducible assumption) | (with_reducible refine Up.alloc ?_ _) | (with_reducible refine Up.drew ?_) | (with_reducible refine Up.drewN ?_ _) | (with_reducible refine Up.setCell ?_ ?_ _) | (with_reducible refine Up.call ?_ (by with_reducible assumption)) | go_size))⟩

end Go.Proofs.YteddlahklilncaaDoor.Pt