/- Clone of an array's items; Items. -/
import Derived.Test.YtcbelhfbdgkcoaaStD
import Derived.Maps.AppendAt
import Derived.Lib.SliceRun
namespace Go.Proofs.Ytcbelhfbdgkcoaa.St
open Go.ChangeShapes Go.WideShapes Go.ChangeAt Go.RowKit
set_option linter.unusedVariables false
set_option linter.unusedSimpArgs false

theorem cellsOf_one : ∀ (l : List (Int × Int)), ∀ u ∈ cellsOf l, u.oneCell' = true
  | [], u, h => by cases h
  | p :: t, u, h => by
    rcases List.mem_append.1 (show u ∈ itemC p ++ cellsOf t from h) with h | h
    · simp only [itemC, List.mem_cons, List.not_mem_nil, or_false] at h
      rcases h with rfl | rfl | rfl | rfl | rfl | rfl | rfl | rfl <;> rfl
    · exact cellsOf_one t u h
theorem clone_calls (g n : Nat) (xs : List (Int × Int)) (hn : xs.length = n) (h1000 : n ≤ 1000) (w : World) (h : w.ownsRow 0 27 8 (.slice (some ⟨g, 0, none⟩) n n) n (cellsOf xs)) :
    Calls Try.prog 38 #[.slice (some ⟨g, 0, none⟩) n n] w fun E w' => ∃ g' cap', E = .returned (.slice (some ⟨g', 0, none⟩) n cap') ∧ w'.ownsRow 0 27 8 (.slice (some ⟨g', 0, none⟩) n cap') n (cellsOf xs) ∧ Up w w' := by
  obtain ⟨i0, hi, hz0, hz1, hz2⟩ := info_parts infoObj
  have hg : g < w.heap.size := (h.lt g rfl).2
  have HS := Lib.hid h
  clear h
  have heq := fun w => Lib.run_eql_slice_nil (P := Try.prog) w 33 27 (some ⟨g, 0, none⟩) n n 0 0 Try.underlying33
  go_enter Try.func38, Try.ntmps38
  go_wp2_with (at_builtin; refine wpList_append_own_at _ rfl _ _ 33 rfl 0 27 i0 _ 8 72 Try.underlying33 hi hz0 hz1 hz2 rfl (by decide) (.slice (some ⟨w.heap.size, 0, none⟩) 0 0) 0 [] rfl (World.ownsRow_made w #[] 0 (Nat.zero_le _) (by decide) rfl) ⟨g, 0, none⟩ n n (cellsOf xs) rfl (by rw [cellsOf_length, hn]) (fun j u hu => by rw [add_plain, Nat.zero_add]; exact ((show Up w _ by (repeat' (first | (with_reducible exact Up.refl _) | (with_reducible assumption) | (with_reducible refine Up.alloc ?_ _) | (with_reducible refine Up.drew ?_) | (with_reducible refine Up.drewN ?_ _) | (with_reducible refine Up.setCell ?_ ?_ _) | (with_reducible refine Up.call ?_ (by with_reducible assumption)) | go_size))).cells.1 g j hg).trans (by have := HS.out.cells (g := g) rfl j u hu; rwa [add_plain, Nat.zero_add] at this)) (cellsOf_one xs) (by unfold maxLen; omega) (by omega) (Nat.zero_le _) ?_; intro v1 w1 hown hgr hnil hat; have HO := Lib.hid hown; have HG := Lib.hid hgr; have HA := Lib.hid hat; clear hown hgr hnil hat)
  go_ret
  have h1 := HO.out
  rw [Nat.zero_add, List.nil_append] at h1
  rcases owned_form h1 with ⟨rfl, _⟩ | ⟨g', cap', rfl, _⟩
  · rcases HA.out with h2 | h2
    · simp [Value.ownBlock] at h2
    · simp [Value.ownBlock] at h2
  · exact ⟨g', cap', rfl, h1, grown_up (Up.alloc (Up.refl w) _) HG.out (fun k hk => by simp only [Value.ownBlock, Option.some.injEq] at hk; omega)⟩

theorem list_whole (b gl cap gi : Nat) (free : Int) (n : Nat) (cs : List Value) (w : World) (h : ArrIs w b gl cap gi free n cs) :
    Calls Try.prog 37 #[.pointer (some ⟨b, 0, none⟩), .agg #[.int .i64 7, .bool false, .int .i64 0, .int .i64 0, .string ⟨#[]⟩, .int .i64 0, .int .i64 0, .int .i64 n]] w fun E w' => E = .returned (.slice (some ⟨gi, 0, none⟩) n n) ∧ Up w w' := by
  have := list_arr b gl cap gi free n cs 0 n (by omega) w h
  simp only [Nat.zero_mul, ite_self, Nat.sub_zero] at this
  exact this

theorem items_of (b gl cap gi : Nat) (free : Int) (n : Nat) (xs : List (Int × Int)) (hn : xs.length = n) (w : World) (h : ArrIs w b gl cap gi free n (cellsOf xs)) :
    Calls Try.prog 11 #[.pointer (some ⟨b, 0, none⟩), .agg #[.int .i64 7, .bool false, .int .i64 0, .int .i64 0, .string ⟨#[]⟩, .int .i64 0, .int .i64 0, .int .i64 n]] w fun E w' => ∃ g' cap', E = .returned (.tuple #[.slice (some ⟨g', 0, none⟩) n cap', .int .i64 0]) ∧ w'.ownsRow 0 27 8 (.slice (some ⟨g', 0, none⟩) n cap') n (cellsOf xs) ∧ Up w w' := by
  have HA := Lib.hid h
  have hlen := h.len
  clear h
  go_enter Try.func11, Try.ntmps11
  go_wp2_with (first
    | (go_at_call 35; ((with_reducible refine (is_arr b gl cap gi free n _ 0 n (by omega) (by omega) (by omega) _ (HA.out.up (by (repeat' (first | (with_reducible exact Up.refl _) | (with_reducible assumption) | (with_reducible refine Up.alloc ?_ _) | (with_reducible refine Up.drew ?_) | (with_reducible refine Up.drewN ?_ _) | (with_reducible refine Up.setCell ?_ ?_ _) | (with_reducible refine Up.call ?_ (by with_reducible assumption)) | go_size))))).mono ?_); rintro E w1 ⟨rfl, hu1⟩; have k_w1 := hu1.cells.1; have f_w1 := hu1.cells.2; have z_w1 := hu1.size; (try simp at z_w1); have l0_w1 : w.heap.size < w1.heap.size := (by omega)))
    | (go_at_call 37; ((with_reducible refine (list_whole b gl cap gi free n _ _ (HA.out.up (by (repeat' (first | (with_reducible exact Up.refl _) | (with_reducible assumption) | (with_reducible refine Up.alloc ?_ _) | (with_reducible refine Up.drew ?_) | (with_reducible refine Up.drewN ?_ _) | (with_reducible refine Up.setCell ?_ ?_ _) | (with_reducible refine Up.call ?_ (by with_reducible assumption)) | go_size))))).mono ?_); rintro E w2 ⟨rfl, hu2⟩))
    | (go_at_call 38; ((with_reducible refine (clone_calls gi n xs hn hlen _ (HA.out.up (by (repeat' (first | (with_reducible exact Up.refl _) | (with_reducible assumption) | (with_reducible refine Up.alloc ?_ _) | (with_reducible refine Up.drew ?_) | (with_reducible refine Up.drewN ?_ _) | (with_reducible refine Up.setCell ?_ ?_ _) | (with_reducible refine Up.call ?_ (by with_reducible assumption)) | go_size)))).own).mono ?_); rintro E w3 ⟨g', cap', rfl, hc, hu3⟩; have HC := Lib.hid hc; clear hc)))
  go_returns
  exact ⟨g', cap', rfl, HC.out, by (repeat' (first | (with_reducible exact Up.refl _) | (with_reducible assumption) | (with_reducible refine Up.alloc ?_ _) | (with_reducible refine Up.drew ?_) | (with_reducible refine Up.drewN ?_ _) | (with_reducible refine Up.setCell ?_ ?_ _) | (with_reducible refine Up.call ?_ (by with_reducible assumption)) | go_size))⟩

end Go.Proofs.Ytcbelhfbdgkcoaa.St
