/- Law 14's call on states that are none. No condition. -/
import Derived.Test.YtoflafbhfoncmaaDoorGsN2
import Derived.Test.YtoflafbhfoncmaaDoorStepA
import Derived.Deep.RegionLaw
namespace Go.Proofs.YtoflafbhfoncmaaDoor.Gs
open Go.ChangeShapes Go.WideShapes Go.RowKit
open Go.Proofs.YtoflafbhfoncmaaDoor.FixM (fits)
open Go.Proofs.YtoflafbhfoncmaaDoor.MatM (M6)
set_option linter.unusedVariables false
set_option linter.unusedSimpArgs false

theorem raw_up {w w1 : World} {e : TypeId} {k : Nat} {v : Value} {n : Nat} {xs : List Value} (h : w.ownsRow 0 e k v n xs) (hc : Up w w1) : w1.ownsRow 0 e k v n xs := by
  refine ⟨h.1, ?_⟩
  rcases h.2 with h1 | ⟨g, cap, cur, hv, hb, hg, hr⟩
  · exact Or.inl h1
  · refine Or.inr ⟨g, cap, cur, hv, hb, ?_, hr⟩
    rw [hc.block g (Array.getElem?_eq_some_iff.1 hg).1]
    exact hg
theorem empty_at {w : World} {g : Nat} (e : g = w.heap.size) : (w.alloc (.cells #[] 3)).ownsRow 0 3 1 (.slice (some ⟨g, 0, none⟩) 0 0) 0 [] := by
  subst e
  exact ownsRow_empty w 0 _ (Nat.zero_le _)

set_option maxRecDepth 8000 in
theorem call_1 (N : Int) (m : M6) (a : Option Addr) (len cap : Nat) (zs : List Int) (px py : Int) (w : World) (h : IsRow .i64 w a len cap zs) (h100 : len ≤ 100) :
    Calls Tryd.prog 8 #[.pointer none, .agg #[.int .i64 1, .int .i64 N, .int .i64 m.a, .int .i64 m.b, .int .i64 m.c, .int .i64 m.d, .int .i64 m.x, .int .i64 m.y, .slice a len cap, .int .i64 px, .int .i64 py]] w fun E w' => E = .returned (.int .i64 21) ∧ Up w w' := by
  clear h h100
  go_enter Tryd.func8, Tryd.ntmps8
  go_wp2_with (go_at_call 13; ((with_reducible refine (save_none _).mono ?_); rintro E w1 ⟨rfl, hu1⟩))
  go_ret
  exact ⟨rfl, by (repeat' (first | (with_reducible exact Up.refl _) | (with_reducible assumption) | (with_reducible refine Up.alloc ?_ _) | (with_reducible refine Up.drew ?_) | (with_reducible refine Up.drewN ?_ _) | (with_reducible refine Up.setCell ?_ ?_ _) | (with_reducible refine Up.call ?_ (by with_reducible assumption)) | go_size))⟩

set_option maxRecDepth 8000 in
theorem call_2 (N : Int) (m : M6) (a : Option Addr) (len cap : Nat) (zs : List Int) (px py : Int) (w : World) (h : IsRow .i64 w a len cap zs) (h100 : len ≤ 100) :
    Calls Tryd.prog 8 #[.pointer none, .agg #[.int .i64 2, .int .i64 N, .int .i64 m.a, .int .i64 m.b, .int .i64 m.c, .int .i64 m.d, .int .i64 m.x, .int .i64 m.y, .slice a len cap, .int .i64 px, .int .i64 py]] w fun E w' => E = .returned (.int .i64 0) ∧ Up w w' := by
  clear h h100
  go_enter Tryd.func8, Tryd.ntmps8
  go_wp2_with (go_at_call 14; ((with_reducible refine (restore_none _).mono ?_); rintro E w1 ⟨rfl, hu1⟩))
  go_ret
  exact ⟨rfl, by (repeat' (first | (with_reducible exact Up.refl _) | (with_reducible assumption) | (with_reducible refine Up.alloc ?_ _) | (with_reducible refine Up.drew ?_) | (with_reducible refine Up.drewN ?_ _) | (with_reducible refine Up.setCell ?_ ?_ _) | (with_reducible refine Up.call ?_ (by with_reducible assumption)) | go_size))⟩

set_option maxRecDepth 8000 in
theorem call_3 (N : Int) (m : M6) (a : Option Addr) (len cap : Nat) (zs : List Int) (px py : Int) (w : World) (h : IsRow .i64 w a len cap zs) (h100 : len ≤ 100) :
    Calls Tryd.prog 8 #[.pointer none, .agg #[.int .i64 3, .int .i64 N, .int .i64 m.a, .int .i64 m.b, .int .i64 m.c, .int .i64 m.d, .int .i64 m.x, .int .i64 m.y, .slice a len cap, .int .i64 px, .int .i64 py]] w fun E w' => E = .returned (.int .i64 0) ∧ Up w w' := by
  clear h h100
  go_enter Tryd.func8, Tryd.ntmps8
  go_wp2_with (go_at_call 23; ((with_reducible refine (restoreAll_none _).mono ?_); rintro E w1 ⟨rfl, hu1⟩))
  go_ret
  exact ⟨rfl, by (repeat' (first | (with_reducible exact Up.refl _) | (with_reducible assumption) | (with_reducible refine Up.alloc ?_ _) | (with_reducible refine Up.drew ?_) | (with_reducible refine Up.drewN ?_ _) | (with_reducible refine Up.setCell ?_ ?_ _) | (with_reducible refine Up.call ?_ (by with_reducible assumption)) | go_size))⟩

set_option maxRecDepth 8000 in
theorem call_4 (N : Int) (m : M6) (a : Option Addr) (len cap : Nat) (zs : List Int) (px py : Int) (w : World) (h : IsRow .i64 w a len cap zs) (h100 : len ≤ 100) :
    Calls Tryd.prog 8 #[.pointer none, .agg #[.int .i64 4, .int .i64 N, .int .i64 m.a, .int .i64 m.b, .int .i64 m.c, .int .i64 m.d, .int .i64 m.x, .int .i64 m.y, .slice a len cap, .int .i64 px, .int .i64 py]] w fun E w' => E = .returned (.int .i64 0) ∧ Up w w' := by
  clear h h100
  go_enter Tryd.func8, Tryd.ntmps8
  go_wp2_with (go_at_call 24; ((with_reducible refine (init_none _).mono ?_); rintro E w1 ⟨rfl, hu1⟩))
  go_ret
  exact ⟨rfl, by (repeat' (first | (with_reducible exact Up.refl _) | (with_reducible assumption) | (with_reducible refine Up.alloc ?_ _) | (with_reducible refine Up.drew ?_) | (with_reducible refine Up.drewN ?_ _) | (with_reducible refine Up.setCell ?_ ?_ _) | (with_reducible refine Up.call ?_ (by with_reducible assumption)) | go_size))⟩

set_option maxRecDepth 8000 in
theorem call_5 (N : Int) (m : M6) (a : Option Addr) (len cap : Nat) (zs : List Int) (px py : Int) (w : World) (h : IsRow .i64 w a len cap zs) (h100 : len ≤ 100) :
    Calls Tryd.prog 8 #[.pointer none, .agg #[.int .i64 5, .int .i64 N, .int .i64 m.a, .int .i64 m.b, .int .i64 m.c, .int .i64 m.d, .int .i64 m.x, .int .i64 m.y, .slice a len cap, .int .i64 px, .int .i64 py]] w fun E w' => E = .returned (.int .i64 21) ∧ Up w w' := by
  clear h h100
  go_enter Tryd.func8, Tryd.ntmps8
  go_wp2_with (go_at_call 25; ((with_reducible refine (concat_none m _).mono ?_); rintro E w1 ⟨rfl, hu1⟩))
  go_ret
  exact ⟨rfl, by (repeat' (first | (with_reducible exact Up.refl _) | (with_reducible assumption) | (with_reducible refine Up.alloc ?_ _) | (with_reducible refine Up.drew ?_) | (with_reducible refine Up.drewN ?_ _) | (with_reducible refine Up.setCell ?_ ?_ _) | (with_reducible refine Up.call ?_ (by with_reducible assumption)) | go_size))⟩

set_option maxRecDepth 8000 in
theorem call_6 (N : Int) (m : M6) (a : Option Addr) (len cap : Nat) (zs : List Int) (px py : Int) (w : World) (h : IsRow .i64 w a len cap zs) (h100 : len ≤ 100) :
    Calls Tryd.prog 8 #[.pointer none, .agg #[.int .i64 6, .int .i64 N, .int .i64 m.a, .int .i64 m.b, .int .i64 m.c, .int .i64 m.d, .int .i64 m.x, .int .i64 m.y, .slice a len cap, .int .i64 px, .int .i64 py]] w fun E w' => E = .returned (.int .i64 21) ∧ Up w w' := by
  clear h h100
  go_enter Tryd.func8, Tryd.ntmps8
  go_wp2_with (go_at_call 26; ((with_reducible refine (setMatrix_none m _).mono ?_); rintro E w1 ⟨rfl, hu1⟩))
  go_ret
  exact ⟨rfl, by (repeat' (first | (with_reducible exact Up.refl _) | (with_reducible assumption) | (with_reducible refine Up.alloc ?_ _) | (with_reducible refine Up.drew ?_) | (with_reducible refine Up.drewN ?_ _) | (with_reducible refine Up.setCell ?_ ?_ _) | (with_reducible refine Up.call ?_ (by with_reducible assumption)) | go_size))⟩

set_option maxRecDepth 8000 in
theorem call_7 (N : Int) (m : M6) (a : Option Addr) (len cap : Nat) (zs : List Int) (px py : Int) (w : World) (h : IsRow .i64 w a len cap zs) (h100 : len ≤ 100) :
    Calls Tryd.prog 8 #[.pointer none, .agg #[.int .i64 7, .int .i64 N, .int .i64 m.a, .int .i64 m.b, .int .i64 m.c, .int .i64 m.d, .int .i64 m.x, .int .i64 m.y, .slice a len cap, .int .i64 px, .int .i64 py]] w fun E w' => E = .returned (.int .i64 21) ∧ Up w w' := by
  clear h h100
  go_enter Tryd.func8, Tryd.ntmps8
  go_wp2_with (go_at_call 27; ((with_reducible refine (setFont_none N m _).mono ?_); rintro E w1 ⟨rfl, hu1⟩))
  go_ret
  exact ⟨rfl, by (repeat' (first | (with_reducible exact Up.refl _) | (with_reducible assumption) | (with_reducible refine Up.alloc ?_ _) | (with_reducible refine Up.drew ?_) | (with_reducible refine Up.drewN ?_ _) | (with_reducible refine Up.setCell ?_ ?_ _) | (with_reducible refine Up.call ?_ (by with_reducible assumption)) | go_size))⟩

set_option maxRecDepth 8000 in
theorem call_10 (N : Int) (m : M6) (a : Option Addr) (len cap : Nat) (zs : List Int) (px py : Int) (w : World) (h : IsRow .i64 w a len cap zs) (h100 : len ≤ 100) :
    Calls Tryd.prog 8 #[.pointer none, .agg #[.int .i64 10, .int .i64 N, .int .i64 m.a, .int .i64 m.b, .int .i64 m.c, .int .i64 m.d, .int .i64 m.x, .int .i64 m.y, .slice a len cap, .int .i64 px, .int .i64 py]] w fun E w' => E = .returned (.int .i64 21) ∧ Up w w' := by
  clear h h100
  go_enter Tryd.func8, Tryd.ntmps8
  go_wp2_with (go_at_call 22; ((with_reducible refine (setWidth_none N _).mono ?_); rintro E w1 ⟨rfl, hu1⟩))
  go_ret
  exact ⟨rfl, by (repeat' (first | (with_reducible exact Up.refl _) | (with_reducible assumption) | (with_reducible refine Up.alloc ?_ _) | (with_reducible refine Up.drew ?_) | (with_reducible refine Up.drewN ?_ _) | (with_reducible refine Up.setCell ?_ ?_ _) | (with_reducible refine Up.call ?_ (by with_reducible assumption)) | go_size))⟩

set_option maxRecDepth 8000 in
theorem call_11 (N : Int) (m : M6) (a : Option Addr) (len cap : Nat) (zs : List Int) (px py : Int) (w : World) (h : IsRow .i64 w a len cap zs) (h100 : len ≤ 100) :
    Calls Tryd.prog 8 #[.pointer none, .agg #[.int .i64 11, .int .i64 N, .int .i64 m.a, .int .i64 m.b, .int .i64 m.c, .int .i64 m.d, .int .i64 m.x, .int .i64 m.y, .slice a len cap, .int .i64 px, .int .i64 py]] w fun E w' => E = .returned (.int .i64 21) ∧ Up w w' := by
  clear h h100
  go_enter Tryd.func8, Tryd.ntmps8
  go_wp2_with (go_at_call 30; ((with_reducible refine (setCap_none N _).mono ?_); rintro E w1 ⟨rfl, hu1⟩))
  go_ret
  exact ⟨rfl, by (repeat' (first | (with_reducible exact Up.refl _) | (with_reducible assumption) | (with_reducible refine Up.alloc ?_ _) | (with_reducible refine Up.drew ?_) | (with_reducible refine Up.drewN ?_ _) | (with_reducible refine Up.setCell ?_ ?_ _) | (with_reducible refine Up.call ?_ (by with_reducible assumption)) | go_size))⟩

set_option maxRecDepth 8000 in
theorem call_12 (N : Int) (m : M6) (a : Option Addr) (len cap : Nat) (zs : List Int) (px py : Int) (w : World) (h : IsRow .i64 w a len cap zs) (h100 : len ≤ 100) :
    Calls Tryd.prog 8 #[.pointer none, .agg #[.int .i64 12, .int .i64 N, .int .i64 m.a, .int .i64 m.b, .int .i64 m.c, .int .i64 m.d, .int .i64 m.x, .int .i64 m.y, .slice a len cap, .int .i64 px, .int .i64 py]] w fun E w' => E = .returned (.int .i64 21) ∧ Up w w' := by
  clear h h100
  go_enter Tryd.func8, Tryd.ntmps8
  go_wp2_with (go_at_call 31; ((with_reducible refine (setJoin_none N _).mono ?_); rintro E w1 ⟨rfl, hu1⟩))
  go_ret
  exact ⟨rfl, by (repeat' (first | (with_reducible exact Up.refl _) | (with_reducible assumption) | (with_reducible refine Up.alloc ?_ _) | (with_reducible refine Up.drew ?_) | (with_reducible refine Up.drewN ?_ _) | (with_reducible refine Up.setCell ?_ ?_ _) | (with_reducible refine Up.call ?_ (by with_reducible assumption)) | go_size))⟩

set_option maxRecDepth 8000 in
theorem call_13 (N : Int) (m : M6) (a : Option Addr) (len cap : Nat) (zs : List Int) (px py : Int) (w : World) (h : IsRow .i64 w a len cap zs) (h100 : len ≤ 100) :
    Calls Tryd.prog 8 #[.pointer none, .agg #[.int .i64 13, .int .i64 N, .int .i64 m.a, .int .i64 m.b, .int .i64 m.c, .int .i64 m.d, .int .i64 m.x, .int .i64 m.y, .slice a len cap, .int .i64 px, .int .i64 py]] w fun E w' => E = .returned (.int .i64 21) ∧ Up w w' := by
  clear h h100
  go_enter Tryd.func8, Tryd.ntmps8
  go_wp2_with (go_at_call 32; ((with_reducible refine (setMiter_none N _).mono ?_); rintro E w1 ⟨rfl, hu1⟩))
  go_ret
  exact ⟨rfl, by (repeat' (first | (with_reducible exact Up.refl _) | (with_reducible assumption) | (with_reducible refine Up.alloc ?_ _) | (with_reducible refine Up.drew ?_) | (with_reducible refine Up.drewN ?_ _) | (with_reducible refine Up.setCell ?_ ?_ _) | (with_reducible refine Up.call ?_ (by with_reducible assumption)) | go_size))⟩

set_option maxRecDepth 8000 in
theorem call_14 (N : Int) (m : M6) (a : Option Addr) (len cap : Nat) (zs : List Int) (px py : Int) (w : World) (h : IsRow .i64 w a len cap zs) (h100 : len ≤ 100) :
    Calls Tryd.prog 8 #[.pointer none, .agg #[.int .i64 14, .int .i64 N, .int .i64 m.a, .int .i64 m.b, .int .i64 m.c, .int .i64 m.d, .int .i64 m.x, .int .i64 m.y, .slice a len cap, .int .i64 px, .int .i64 py]] w fun E w' => E = .returned (.int .i64 21) ∧ Up w w' := by
  clear h h100
  go_enter Tryd.func8, Tryd.ntmps8
  go_wp2_with (go_at_call 33; ((with_reducible refine (clip_none _ _).mono ?_); rintro E w1 ⟨rfl, hu1⟩))
  go_ret
  exact ⟨rfl, by (repeat' (first | (with_reducible exact Up.refl _) | (with_reducible assumption) | (with_reducible refine Up.alloc ?_ _) | (with_reducible refine Up.drew ?_) | (with_reducible refine Up.drewN ?_ _) | (with_reducible refine Up.setCell ?_ ?_ _) | (with_reducible refine Up.call ?_ (by with_reducible assumption)) | go_size))⟩

set_option maxRecDepth 8000 in
theorem call_15 (N : Int) (m : M6) (a : Option Addr) (len cap : Nat) (zs : List Int) (px py : Int) (w : World) (h : IsRow .i64 w a len cap zs) (h100 : len ≤ 100) :
    Calls Tryd.prog 8 #[.pointer none, .agg #[.int .i64 15, .int .i64 N, .int .i64 m.a, .int .i64 m.b, .int .i64 m.c, .int .i64 m.d, .int .i64 m.x, .int .i64 m.y, .slice a len cap, .int .i64 px, .int .i64 py]] w fun E w' => E = .returned (.int .i64 0) ∧ Up w w' := by
  clear h h100
  go_enter Tryd.func8, Tryd.ntmps8
  go_wp2_with (go_at_call 34; ((with_reducible refine (unclip_none _).mono ?_); rintro E w1 ⟨rfl, hu1⟩))
  go_ret
  exact ⟨rfl, by (repeat' (first | (with_reducible exact Up.refl _) | (with_reducible assumption) | (with_reducible refine Up.alloc ?_ _) | (with_reducible refine Up.drew ?_) | (with_reducible refine Up.drewN ?_ _) | (with_reducible refine Up.setCell ?_ ?_ _) | (with_reducible refine Up.call ?_ (by with_reducible assumption)) | go_size))⟩

set_option maxRecDepth 8000 in
theorem call_8 (N : Int) (m : M6) (a : Option Addr) (len cap : Nat) (zs : List Int) (px py : Int) (w : World) (h : IsRow .i64 w a len cap zs) (h100 : len ≤ 100) :
    Calls Tryd.prog 8 #[.pointer none, .agg #[.int .i64 8, .int .i64 N, .int .i64 m.a, .int .i64 m.b, .int .i64 m.c, .int .i64 m.d, .int .i64 m.x, .int .i64 m.y, .slice a len cap, .int .i64 px, .int .i64 py]] w fun E w' => E = .returned (.int .i64 21) ∧ Up w w' := by
  obtain ⟨i0, hi, hz0, hz1, hz2⟩ := info_parts Mat.info3
  have HI := Lib.hid h
  clear h
  go_enter Tryd.func8, Tryd.ntmps8
  go_wp2_with (first
    | (at_builtin; refine wpList_append_any rfl _ _ 27 rfl 0 3 i0 (.int .i64 0) 1 8 Tryd.underlying27 hi hz0 hz1 hz2 rfl (by decide) (.slice (some ⟨w.heap.size + 1, 0, none⟩) 0 0) 0 [] rfl (empty_at (by simp)) a len cap _ rfl HI.out.newsLen HI.out.none (HI.out.news (Up.alloc (Up.alloc (Up.refl w) _) _)) (ints_oneCell _ _) (by unfold maxLen; omega) (by omega) (Nat.zero_le _) ?_; intro v1 w1 hown hgr hnil; have HU := Lib.hid (show Up w w1 from grown_up (Up.alloc (Up.alloc (Up.refl w) _) _) hgr (fun k0 hk0 => by have h4 : w.heap.size + 1 = k0 := (by injection hk0); omega)); have hu1 := HU.out; clear hown hgr hnil)
    | (go_at_call 28; ((with_reducible refine (setColor_noneV _ _).mono ?_); rintro E w2 ⟨rfl, hu2⟩)))
  go_ret
  exact ⟨rfl, by (repeat' (first | (with_reducible exact Up.refl _) | (with_reducible assumption) | (with_reducible refine Up.alloc ?_ _) | (with_reducible refine Up.drew ?_) | (with_reducible refine Up.drewN ?_ _) | (with_reducible refine Up.setCell ?_ ?_ _) | (with_reducible refine Up.call ?_ (by with_reducible assumption)) | go_size))⟩

set_option maxRecDepth 8000 in
theorem call_9 (N : Int) (m : M6) (a : Option Addr) (len cap : Nat) (zs : List Int) (px py : Int) (w : World) (h : IsRow .i64 w a len cap zs) (h100 : len ≤ 100) :
    Calls Tryd.prog 8 #[.pointer none, .agg #[.int .i64 9, .int .i64 N, .int .i64 m.a, .int .i64 m.b, .int .i64 m.c, .int .i64 m.d, .int .i64 m.x, .int .i64 m.y, .slice a len cap, .int .i64 px, .int .i64 py]] w fun E w' => E = .returned (.int .i64 21) ∧ Up w w' := by
  obtain ⟨i0, hi, hz0, hz1, hz2⟩ := info_parts Mat.info3
  have HI := Lib.hid h
  go_enter Tryd.func8, Tryd.ntmps8
  go_wp2
  go_region_law (first
    | (refine step_append_any rfl (.tmp 54) (.tmp 56) 27 rfl 0 3 i0 (.int .i64 0) 1 8 Tryd.underlying27 hi hz0 hz1 hz2 rfl (by decide) (.slice (some ⟨w.heap.size + 1, 0, none⟩) 0 0) 0 [] rfl (by first | exact empty_at (by simp) | exact raw_up (empty_at (by simp)) (Up.drew (Up.refl _))) a len cap _ rfl HI.out.newsLen HI.out.none (HI.out.news (by (repeat' (first | (with_reducible exact Up.refl _) | (with_reducible assumption) | (with_reducible refine Up.alloc ?_ _) | (with_reducible refine Up.drew ?_) | (with_reducible refine Up.drewN ?_ _) | (with_reducible refine Up.setCell ?_ ?_ _) | (with_reducible refine Up.call ?_ (by with_reducible assumption)) | go_size)))) (ints_oneCell _ _) (by unfold maxLen; omega) (by omega) (Nat.zero_le _) ?_; intro v1 w1 hown hgr; have HU := Lib.hid (show Up w w1 from grown_up (by (repeat' (first | (with_reducible exact Up.refl _) | (with_reducible assumption) | (with_reducible refine Up.alloc ?_ _) | (with_reducible refine Up.drew ?_) | (with_reducible refine Up.drewN ?_ _) | (with_reducible refine Up.setCell ?_ ?_ _) | (with_reducible refine Up.call ?_ (by with_reducible assumption)) | go_size))) hgr (fun k0 hk0 => by have h4 : w.heap.size + 1 = k0 := (by injection hk0); omega)); have hu1 := HU.out; have RA : Row w1 w.heap.size #[.int .i64 9, .int .i64 N, .int .i64 m.a, .int .i64 m.b, .int .i64 m.c, .int .i64 m.d, .int .i64 m.x, .int .i64 m.y, .slice a len cap, .int .i64 px, .int .i64 py] := Row.up (show Row (w.alloc (.cells #[.int .i64 9, .int .i64 N, .int .i64 m.a, .int .i64 m.b, .int .i64 m.c, .int .i64 m.d, .int .i64 m.x, .int .i64 m.y, .slice a len cap, .int .i64 px, .int .i64 py] 31)) w.heap.size #[.int .i64 9, .int .i64 N, .int .i64 m.a, .int .i64 m.b, .int .i64 m.c, .int .i64 m.d, .int .i64 m.x, .int .i64 m.y, .slice a len cap, .int .i64 px, .int .i64 py] by (repeat' (first | (with_reducible assumption) | (with_reducible refine Row.at _ _ ?_; (simp; done)) | (with_reducible refine Row.alloc ?_ _) | (with_reducible refine Row.drew ?_) | (with_reducible refine Row.drewN ?_ _) | (with_reducible refine Row.other ?_ (by first | (simp; done) | (simp; omega) | omega) _) | (with_reducible refine Row.up ?_ (by with_reducible assumption)) | (with_reducible refine Row.chg ?_ (by with_reducible assumption) (by first | (simp; done) | (simp; omega)))))) (grown_up (by (repeat' (first | (with_reducible exact Up.refl _) | (with_reducible assumption) | (with_reducible refine Up.alloc ?_ _) | (with_reducible refine Up.drew ?_) | (with_reducible refine Up.drewN ?_ _) | (with_reducible refine Up.setCell ?_ ?_ _) | (with_reducible refine Up.call ?_ (by with_reducible assumption)) | go_size))) hgr (fun k0 hk0 => by have h4 : w.heap.size + 1 = k0 := (by injection hk0); (try simp); omega)); have c1 := RA.cell 1 rfl; clear RA; rw [Nat.zero_add, List.nil_append] at hown; have HO := Lib.hid hown; clear hown hgr)
    | (go_simp; go_at_call 29; ((with_reducible refine (setDash_noneV _ _ _ _ _ HO.out (by omega) (ints_oneCell _ _)).mono ?_); rintro E w2 ⟨rfl, hu2⟩)))
  all_goals go_wp2
  all_goals
    go_ret
    exact ⟨rfl, by (repeat' (first | (with_reducible exact Up.refl _) | (with_reducible assumption) | (with_reducible refine Up.alloc ?_ _) | (with_reducible refine Up.drew ?_) | (with_reducible refine Up.drewN ?_ _) | (with_reducible refine Up.setCell ?_ ?_ _) | (with_reducible refine Up.call ?_ (by with_reducible assumption)) | go_size))⟩

set_option maxRecDepth 8000 in
theorem call_else (D : Int) (k1 : (D == 1) = false) (k2 : (D == 2) = false) (k3 : (D == 3) = false) (k4 : (D == 4) = false) (k5 : (D == 5) = false) (k6 : (D == 6) = false) (k7 : (D == 7) = false) (k8 : (D == 8) = false) (k9 : (D == 9) = false) (k10 : (D == 10) = false) (k11 : (D == 11) = false) (k12 : (D == 12) = false) (k13 : (D == 13) = false) (k14 : (D == 14) = false) (k15 : (D == 15) = false) (k16 : (D == 16) = false) (N : Int) (m : M6) (a : Option Addr) (len cap : Nat) (zs : List Int) (px py : Int) (w : World) (h : IsRow .i64 w a len cap zs) (h100 : len ≤ 100) :
    Calls Tryd.prog 8 #[.pointer none, .agg #[.int .i64 D, .int .i64 N, .int .i64 m.a, .int .i64 m.b, .int .i64 m.c, .int .i64 m.d, .int .i64 m.x, .int .i64 m.y, .slice a len cap, .int .i64 px, .int .i64 py]] w fun E w' => E = .returned (.int .i64 0) ∧ Up w w' := by
  clear h h100
  go_enter Tryd.func8, Tryd.ntmps8
  go_wp2
  go_ret
  exact ⟨rfl, by (repeat' (first | (with_reducible exact Up.refl _) | (with_reducible assumption) | (with_reducible refine Up.alloc ?_ _) | (with_reducible refine Up.drew ?_) | (with_reducible refine Up.drewN ?_ _) | (with_reducible refine Up.setCell ?_ ?_ _) | (with_reducible refine Up.call ?_ (by with_reducible assumption)) | go_size))⟩

end Go.Proofs.YtoflafbhfoncmaaDoor.Gs
