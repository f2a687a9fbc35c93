/- Law 15's answers: a page that is empty is made, shown and handed over. No condition. -/
import Derived.Test.YteddlahklilncaaPt2
import Derived.Test.YteddlahklilncaaStepA
import Derived.Test.YteddlahklilncaaOwn
import Derived.Deep.AppendLies
import Derived.Deep.RegionHeld3
import Derived.Deep.RegionLaw
import Derived.Deep.Cut
namespace Go.Proofs.Yteddlahklilncaa.Pt
open Go.ChangeShapes Go.WideShapes Go.ChangeAt Go.RowKit
open Go.Proofs.Yteddlahklilncaa.FixM (fits)
open Go.Proofs.Yteddlahklilncaa.PathM (Seg sound)
open Go.Proofs.Yteddlahklilncaa.MatM (M6)
set_option linter.unusedVariables false
set_option linter.unusedSimpArgs false

theorem infoPg : (Try.prog.info? 59).map (fun i => (i.zero, i.size, i.bytes)) = some (some (.agg #[.int .i64 0, .int .i64 0, .slice none 0 0]), 3, 40) := by kernel_rfl
theorem info_parts3 {t : TypeId} {z : Value} {n b : Nat} (h : (Try.prog.info? t).map (fun i => (i.zero, i.size, i.bytes)) = some (some z, n, b)) : ∃ i, Try.prog.info? t = some i ∧ i.zero = some z ∧ i.size = n ∧ i.bytes = b := by
  cases hi : Try.prog.info? t with
  | none => rw [hi] at h; cases h
  | some i => rw [hi] at h; simp at h; exact ⟨i, rfl, h.1, h.2.1, h.2.2⟩
theorem raw_up {w w1 : World} {base : Nat} {e : TypeId} {k : Nat} {v : Value} {n : Nat} {xs : List Value} (h : w.ownsRow base e k v n xs) (hc : Up w w1) : w1.ownsRow base e k v n xs := by
  refine ⟨h.1, ?_⟩
  rcases h.2 with h1 | ⟨g, cap, cur, hv, hb, hg, hr⟩
  · exact Or.inl h1
  · refine Or.inr ⟨g, cap, cur, hv, hb, ?_, hr⟩
    rw [hc.block g (Array.getElem?_eq_some_iff.1 hg).1]
    exact hg
theorem owned_new {w : World} {base : Nat} {e : TypeId} {k : Nat} {v : Value} {n : Nat} {xs : List Value} (h : w.ownsRow base e k v n xs) : w.ownsRow 0 e k v n xs ∧ ∀ g, v.ownBlock = some g → base ≤ g := by
  rcases h.2 with ⟨h1, h2⟩ | ⟨g, cap, cur, hv, hb, hg, hr⟩
  · exact ⟨⟨h.1, Or.inl ⟨h1, h2⟩⟩, fun g hg => by rw [h1] at hg; cases hg⟩
  · exact ⟨⟨h.1, Or.inr ⟨g, cap, cur, hv, Nat.zero_le _, hg, hr⟩⟩, fun g' hg' => by rw [hv] at hg'; simp only [Value.ownBlock, Option.some.injEq] at hg'; omega⟩
set_option maxRecDepth 8000 in
theorem new_calls (W H n : Int) (hW : sideR W = true) (hH : sideR H = true) (h1 : decide (n < 1) = false) (h2 : decide (256 < n) = false) (w : World) :
    Calls Try.prog 4 #[.int .i64 W, .int .i64 H, .int .i64 n] w fun E w' => ∃ b, E = .returned (.tuple #[.pointer (some ⟨b, 0, none⟩), .int .i64 0]) ∧ w.heap.size ≤ b ∧ Row w' b #[.int .i64 W, .int .i64 H, .slice none 0 0, .int .i64 n, .slice none 0 0] ∧ Up w w' := by
  have HW := Lib.hid hW
  have HH := Lib.hid hH
  clear hW hH
  go_enter Try.func4, Try.ntmps4
  go_wp2_with (first
    | (go_at_call 16; ((with_reducible refine (side_calls W _).mono ?_); rw [HW.out]; rintro E w1 ⟨rfl, hu1⟩; have z1 := hu1.size))
    | (go_at_call 16; ((with_reducible refine (side_calls H _).mono ?_); rw [HH.out]; rintro E w2 ⟨rfl, hu2⟩; have z2 := hu2.size)))
  go_returns
  exact ⟨_, rfl, by (first | omega | (simp; omega)), by (repeat' (first | (with_reducible assumption) | (with_reducible refine Row.at _ _ ?_; (simp; done)) | (with_reducible refine Row.alloc ?_ _) | (with_reducible refine Row.drew ?_) | (with_reducible refine Row.drewN ?_ _) | (with_reducible refine Row.other ?_ (by first | (simp; done) | (simp; omega) | omega) _) | (with_reducible refine Row.up ?_ (by with_reducible assumption)) | (with_reducible refine Row.chg ?_ (by with_reducible assumption) (by first | (simp; done) | (simp; omega))))), by (repeat' (first | (with_reducible exact Up.refl _) | (with_reducible assumption) | (with_reducible refine Up.alloc ?_ _) | (with_reducible refine Up.drew ?_) | (with_reducible refine Up.drewN ?_ _) | (with_reducible refine Up.setCell ?_ ?_ _) | (with_reducible refine Up.call ?_ (by with_reducible assumption)) | go_size))⟩

theorem owns_nil (w : World) : Calls Try.prog 33 #[.slice none 0 0] w fun E w' => ∃ g, E = .returned (.slice (some ⟨g, 0, none⟩) 0 0) ∧ Up w w' := by
  have hmk : ∀ W : World, (Instr.makeSlice 45 (.int .i64 0) (.int .i64 0)).run Try.prog W = .ok (.slice (some ⟨W.heap.size, 0, none⟩) 0 0) (W.alloc (.cells #[] 55)) := fun _ => by kernel_rfl
  go_enter Try.func33, Try.ntmps33
  go_wp2
  refine wp_loop_rounds 1 ?_
  rw [rounds_succ]
  go_wp2
  go_ret
  exact ⟨_, rfl, by (repeat' (first | (with_reducible exact Up.refl _) | (with_reducible assumption) | (with_reducible refine Up.alloc ?_ _) | (with_reducible refine Up.drew ?_) | (with_reducible refine Up.drewN ?_ _) | (with_reducible refine Up.setCell ?_ ?_ _) | (with_reducible refine Up.call ?_ (by with_reducible assumption)) | go_size))⟩

theorem c3_of {w : World} {c : Nat} {W H : Int} {x y : Value} (h : Row w c #[.int .i64 W, .int .i64 H, .slice none 0 0, x, y]) : w.cell? ⟨c, 0, none⟩ = some (.int .i64 W) ∧ w.cell? ⟨c, 1, none⟩ = some (.int .i64 H) ∧ w.cell? ⟨c, 2, none⟩ = some (.slice none 0 0) := ⟨h.cell 0 rfl, h.cell 1 rfl, h.cell 2 rfl⟩

set_option maxRecDepth 8000 in
set_option maxHeartbeats 2000000 in
theorem show_calls (W H n : Int) (hn : 0 < n) (c : Nat) (w : World) (h : Row w c #[.int .i64 W, .int .i64 H, .slice none 0 0, .int .i64 n, .slice none 0 0]) :
    Calls Try.prog 19 #[.pointer (some ⟨c, 0, none⟩)] w fun E w' => E = .returned (.int .i64 0) ∧ ∃ g cap, Row w' c #[.int .i64 W, .int .i64 H, .slice none 0 0, .int .i64 n, .slice (some ⟨g, 0, none⟩) 1 cap] ∧ w'.ownsRow w.heap.size 59 3 (.slice (some ⟨g, 0, none⟩) 1 cap) 1 #[.int .i64 W, .int .i64 H, .slice none 0 0].toList ∧ Chg [c] w w' := by
  obtain ⟨i0, hi, hz0, hz1, hz2⟩ := info_parts3 infoPg
  have HR := Lib.hid h
  have HLC := Lib.hid h.lt
  have q0 : w.cell? ⟨c, 0, none⟩ = some (.int .i64 W) := h.cell 0 rfl
  have q1 : w.cell? ⟨c, 1, none⟩ = some (.int .i64 H) := h.cell 1 rfl
  have q2 : w.cell? ⟨c, 2, none⟩ = some (.slice none 0 0) := h.cell 2 rfl
  have q3 : w.cell? ⟨c, 3, none⟩ = some (.int .i64 n) := h.cell 3 rfl
  have q4 : w.cell? ⟨c, 4, none⟩ = some (.slice none 0 0) := h.cell 4 rfl
  have t1 : decide (n ≤ 0) = false := decide_eq_false (by omega)
  have lc := h.lt
  have lc1 : c < w.heap.size + 1 := Nat.lt_succ_of_lt lc
  clear h
  go_enter Try.func19, Try.ntmps19
  go_wp2
  refine wp_region_held_drew (S := fun w' => w'.cell? ⟨c, 3, none⟩ = some (.int .i64 n) ∧ w'.cell? ⟨c, 4, none⟩ = some (.slice none 0 0)) (by kernel_rfl) ?_ (fun hHeld => ?_)
  · exact ⟨q3, q4⟩
  refine wpAnyH_take (i := 0) (v := ?_) rfl (by kernel_rfl) (by kernel_rfl) (by kernel_rfl) (fun _ _ _ h => h) (Or.inl ⟨by rfl, ?_⟩) (by assumption) ?_
  rotate_left
  · intro w2 hSw
    (try dsimp only at hSw)
    (try (obtain ⟨s3, s4⟩ := hSw))
    go_simp
    (try (with_reducible rfl))
  (try simp only [Act.put, List.getElem_toArray, List.getElem_cons_zero, List.getElem_cons_succ, List.setIfInBounds_toArray, List.set_cons_zero, List.set_cons_succ])
  refine wpAnyH_take (i := 1) (v := ?_) rfl (by kernel_rfl) (by kernel_rfl) (by kernel_rfl) (fun _ _ _ h => h) (Or.inl ⟨by rfl, ?_⟩) (by assumption) ?_
  rotate_left
  · intro w2 hSw
    (try dsimp only at hSw)
    (try (obtain ⟨s3, s4⟩ := hSw))
    go_simp
    (try (with_reducible rfl))
  (try simp only [Act.put, List.getElem_toArray, List.getElem_cons_zero, List.getElem_cons_succ, List.setIfInBounds_toArray, List.set_cons_zero, List.set_cons_succ])
  refine wpAnyH_take (i := 2) (v := ?_) rfl (by kernel_rfl) (by kernel_rfl) (by kernel_rfl) (fun _ _ _ h => h) (Or.inl ⟨by rfl, ?_⟩) (by assumption) ?_
  rotate_left
  · intro w2 hSw
    (try dsimp only at hSw)
    (try (obtain ⟨s3, s4⟩ := hSw))
    go_simp
    (try (with_reducible rfl))
  (try simp only [Act.put, List.getElem_toArray, List.getElem_cons_zero, List.getElem_cons_succ, List.setIfInBounds_toArray, List.set_cons_zero, List.set_cons_succ])
  refine wpAnyH_take (i := 3) (v := ?_) rfl (by kernel_rfl) (by kernel_rfl) (by kernel_rfl) (fun _ _ _ h => h) (Or.inl ⟨by rfl, ?_⟩) (by assumption) ?_
  rotate_left
  · intro w2 hSw
    (try dsimp only at hSw)
    (try (obtain ⟨s3, s4⟩ := hSw))
    go_simp
    (try (with_reducible rfl))
  (try simp only [Act.put, List.getElem_toArray, List.getElem_cons_zero, List.getElem_cons_succ, List.setIfInBounds_toArray, List.set_cons_zero, List.set_cons_succ])
  refine wpAnyH_take (i := 4) (v := ?_) rfl (by kernel_rfl) (by kernel_rfl) (by kernel_rfl) (fun _ _ _ h => h) (Or.inl ⟨by rfl, ?_⟩) (by assumption) ?_
  rotate_left
  · intro w2 hSw
    (try dsimp only at hSw)
    (try (obtain ⟨s3, s4⟩ := hSw))
    go_simp
    (try (with_reducible rfl))
  (try simp only [Act.put, List.getElem_toArray, List.getElem_cons_zero, List.getElem_cons_succ, List.setIfInBounds_toArray, List.set_cons_zero, List.set_cons_succ])
  refine wpAnyH_take (i := 5) (v := ?_) rfl (by kernel_rfl) (by kernel_rfl) (by kernel_rfl) (fun _ _ _ h => h) (Or.inl ⟨by rfl, ?_⟩) (by assumption) ?_
  rotate_left
  · intro w2 hSw
    (try dsimp only at hSw)
    (try (obtain ⟨s3, s4⟩ := hSw))
    go_simp
    (try (with_reducible rfl))
  (try simp only [Act.put, List.getElem_toArray, List.getElem_cons_zero, List.getElem_cons_succ, List.setIfInBounds_toArray, List.set_cons_zero, List.set_cons_succ])
  refine wpAnyH_take (i := 6) (v := ?_) rfl (by kernel_rfl) (by kernel_rfl) (by kernel_rfl) (fun _ _ _ h => h) (Or.inl ⟨by rfl, ?_⟩) (by assumption) ?_
  rotate_left
  · intro w2 hSw
    (try dsimp only at hSw)
    (try (obtain ⟨s3, s4⟩ := hSw))
    go_simp
    (try (with_reducible rfl))
  (try simp only [Act.put, List.getElem_toArray, List.getElem_cons_zero, List.getElem_cons_succ, List.setIfInBounds_toArray, List.set_cons_zero, List.set_cons_succ])
  refine wpAnyH_take (i := 7) (v := ?_) rfl (by kernel_rfl) (by kernel_rfl) (by kernel_rfl) (fun _ _ _ h => h) (Or.inl ⟨by rfl, ?_⟩) (by assumption) ?_
  rotate_left
  · intro w2 hSw
    (try dsimp only at hSw)
    (try (obtain ⟨s3, s4⟩ := hSw))
    go_simp
    (try (with_reducible rfl))
  (try simp only [Act.put, List.getElem_toArray, List.getElem_cons_zero, List.getElem_cons_succ, List.setIfInBounds_toArray, List.set_cons_zero, List.set_cons_succ])
  refine wpAnyH_take (i := 8) (v := ?_) rfl (by kernel_rfl) (by kernel_rfl) (by kernel_rfl) (fun _ _ _ h => h) (Or.inl ⟨by rfl, ?_⟩) (by assumption) ?_
  rotate_left
  · intro w2 hSw
    (try dsimp only at hSw)
    (try (obtain ⟨s3, s4⟩ := hSw))
    go_simp
    (try (with_reducible rfl))
  (try simp only [Act.put, List.getElem_toArray, List.getElem_cons_zero, List.getElem_cons_succ, List.setIfInBounds_toArray, List.set_cons_zero, List.set_cons_succ])
  refine wpAnyH_take (i := 9) (v := ?_) rfl (by kernel_rfl) (by kernel_rfl) (by kernel_rfl) (fun _ _ _ h => h) (Or.inl ⟨by rfl, ?_⟩) (by assumption) ?_
  rotate_left
  · intro w2 hSw
    (try dsimp only at hSw)
    (try (obtain ⟨s3, s4⟩ := hSw))
    go_simp
    (try (with_reducible rfl))
  (try simp only [Act.put, List.getElem_toArray, List.getElem_cons_zero, List.getElem_cons_succ, List.setIfInBounds_toArray, List.set_cons_zero, List.set_cons_succ])
  refine wpAnyH_take (i := 10) (v := ?_) rfl (by kernel_rfl) (by kernel_rfl) (by kernel_rfl) (fun _ _ _ h => h) (Or.inl ⟨by rfl, ?_⟩) (by assumption) ?_
  rotate_left
  · intro w2 hSw
    (try dsimp only at hSw)
    (try (obtain ⟨s3, s4⟩ := hSw))
    go_simp
    (try (with_reducible rfl))
  (try simp only [Act.put, List.getElem_toArray, List.getElem_cons_zero, List.getElem_cons_succ, List.setIfInBounds_toArray, List.set_cons_zero, List.set_cons_succ])
  refine wpAnyH_done (by kernel_rfl) ?_ _
  clear hHeld
  go_wp2
  refine wp_region_held_drew (S := fun w' => w'.cell? ⟨c, 0, none⟩ = some (.int .i64 W) ∧ w'.cell? ⟨c, 1, none⟩ = some (.int .i64 H) ∧ w'.cell? ⟨c, 2, none⟩ = some (.slice none 0 0)) (by kernel_rfl) ?_ (fun hHeld => ?_)
  · exact c3_of (show Row _ c #[.int .i64 W, .int .i64 H, .slice none 0 0, .int .i64 n, .slice none 0 0] from HR.out.up (by (repeat' (first | (with_reducible exact Up.refl _) | (with_reducible assumption) | (with_reducible refine Up.alloc ?_ _) | (with_reducible refine Up.drew ?_) | (with_reducible refine Up.drewN ?_ _) | (with_reducible refine Up.setCell ?_ ?_ _) | (with_reducible refine Up.call ?_ (by with_reducible assumption)) | go_size))))
  refine wpAnyH_take (i := 0) (v := ?_) rfl (by kernel_rfl) (by kernel_rfl) (by kernel_rfl) (fun _ _ _ h => h) (Or.inl ⟨by rfl, ?_⟩) (by assumption) ?_
  rotate_left
  · intro w2 hSw
    (try dsimp only at hSw)
    (try (obtain ⟨s0, s1, s2⟩ := hSw))
    go_simp
    (try (with_reducible rfl))
  (try simp only [Act.put, List.getElem_toArray, List.getElem_cons_zero, List.getElem_cons_succ, List.setIfInBounds_toArray, List.set_cons_zero, List.set_cons_succ])
  refine wpAnyH_take (i := 1) (v := ?_) rfl (by kernel_rfl) (by kernel_rfl) (by kernel_rfl) (fun _ _ _ h => h) (Or.inl ⟨by rfl, ?_⟩) (by assumption) ?_
  rotate_left
  · intro w2 hSw
    (try dsimp only at hSw)
    (try (obtain ⟨s0, s1, s2⟩ := hSw))
    go_simp
    (try (with_reducible rfl))
  (try simp only [Act.put, List.getElem_toArray, List.getElem_cons_zero, List.getElem_cons_succ, List.setIfInBounds_toArray, List.set_cons_zero, List.set_cons_succ])
  refine wpAnyH_take (i := 2) (v := ?_) rfl (by kernel_rfl) (by kernel_rfl) (by kernel_rfl) (fun _ _ _ h => h) (Or.inl ⟨by rfl, ?_⟩) (by assumption) ?_
  rotate_left
  · intro w2 hSw
    (try dsimp only at hSw)
    (try (obtain ⟨s0, s1, s2⟩ := hSw))
    go_simp
    (try (with_reducible rfl))
  (try simp only [Act.put, List.getElem_toArray, List.getElem_cons_zero, List.getElem_cons_succ, List.setIfInBounds_toArray, List.set_cons_zero, List.set_cons_succ])
  refine wpAnyH_take (i := 3) (v := ?_) rfl (by kernel_rfl) (by kernel_rfl) (by kernel_rfl) (fun _ _ _ h => h) (Or.inl ⟨by rfl, ?_⟩) (by assumption) ?_
  rotate_left
  · intro w2 hSw
    (try dsimp only at hSw)
    (try (obtain ⟨s0, s1, s2⟩ := hSw))
    go_simp
    (try (with_reducible rfl))
  (try simp only [Act.put, List.getElem_toArray, List.getElem_cons_zero, List.getElem_cons_succ, List.setIfInBounds_toArray, List.set_cons_zero, List.set_cons_succ])
  refine wpAnyH_take (i := 5) (v := ?_) rfl (by kernel_rfl) (by kernel_rfl) (by kernel_rfl) (fun _ _ _ h => h) (Or.inl ⟨by rfl, ?_⟩) (by assumption) ?_
  rotate_left
  · intro w2 hSw
    (try dsimp only at hSw)
    (try (obtain ⟨s0, s1, s2⟩ := hSw))
    go_simp
    (try (with_reducible rfl))
  (try simp only [Act.put, List.getElem_toArray, List.getElem_cons_zero, List.getElem_cons_succ, List.setIfInBounds_toArray, List.set_cons_zero, List.set_cons_succ])
  refine wpAnyH_take (i := 6) (v := ?_) rfl (by kernel_rfl) (by kernel_rfl) (by kernel_rfl) (fun _ _ _ h => h) (Or.inl ⟨by rfl, ?_⟩) (by assumption) ?_
  rotate_left
  · intro w2 hSw
    (try dsimp only at hSw)
    (try (obtain ⟨s0, s1, s2⟩ := hSw))
    go_simp
    (try (with_reducible rfl))
  (try simp only [Act.put, List.getElem_toArray, List.getElem_cons_zero, List.getElem_cons_succ, List.setIfInBounds_toArray, List.set_cons_zero, List.set_cons_succ])
  refine wpAnyH_take (i := 7) (v := ?_) rfl (by kernel_rfl) (by kernel_rfl) (by kernel_rfl) (fun _ _ _ h => h) (Or.inl ⟨by rfl, ?_⟩) (by assumption) ?_
  rotate_left
  · intro w2 hSw
    (try dsimp only at hSw)
    (try (obtain ⟨s0, s1, s2⟩ := hSw))
    go_simp
    (try (with_reducible rfl))
  (try simp only [Act.put, List.getElem_toArray, List.getElem_cons_zero, List.getElem_cons_succ, List.setIfInBounds_toArray, List.set_cons_zero, List.set_cons_succ])
  refine wpAnyH_take (i := 8) (v := ?_) rfl (by kernel_rfl) (by kernel_rfl) (by kernel_rfl) (fun _ _ _ h => h) (Or.inl ⟨by rfl, ?_⟩) (by assumption) ?_
  rotate_left
  · intro w2 hSw
    (try dsimp only at hSw)
    (try (obtain ⟨s0, s1, s2⟩ := hSw))
    go_simp
    (try (with_reducible rfl))
  (try simp only [Act.put, List.getElem_toArray, List.getElem_cons_zero, List.getElem_cons_succ, List.setIfInBounds_toArray, List.set_cons_zero, List.set_cons_succ])
  refine wpAnyH_ready (rs := [4, 9]) (by decide +kernel) (by simp) ?_
  refine AllReadyH.cons rfl (fun K hK => ?_) (AllReadyH.cons rfl (fun K hK => ?_) (AllReadyH.nil))
  · skip
    (try simp only [List.getElem_toArray, List.getElem_cons_zero, List.getElem_cons_succ])
    (go_simp)
    refine hK.out _ _ ?_ (fun hHeld => ?_)
    · exact c3_of (show Row _ c #[.int .i64 W, .int .i64 H, .slice none 0 0, .int .i64 n, .slice none 0 0] from HR.out.up (by (repeat' (first | (with_reducible exact Up.refl _) | (with_reducible assumption) | (with_reducible refine Up.alloc ?_ _) | (with_reducible refine Up.drew ?_) | (with_reducible refine Up.drewN ?_ _) | (with_reducible refine Up.setCell ?_ ?_ _) | (with_reducible refine Up.call ?_ (by with_reducible assumption)) | go_size))))
    clear hK K
    (try simp only [Act.put, List.getElem_toArray, List.getElem_cons_zero, List.getElem_cons_succ, List.setIfInBounds_toArray, List.set_cons_zero, List.set_cons_succ])
    refine wpAnyH_ready (rs := [9]) (by decide +kernel) (by simp) ?_
    refine AllReadyH.cons rfl (fun K hK => ?_) (AllReadyH.nil)
    (try simp only [List.getElem_toArray, List.getElem_cons_zero, List.getElem_cons_succ])
    (go_simp)
    refine hK.out _ _ ?_ (fun hHeld => ?_)
    · exact c3_of (show Row _ c #[.int .i64 W, .int .i64 H, .slice none 0 0, .int .i64 n, .slice none 0 0] from HR.out.up (by (repeat' (first | (with_reducible exact Up.refl _) | (with_reducible assumption) | (with_reducible refine Up.alloc ?_ _) | (with_reducible refine Up.drew ?_) | (with_reducible refine Up.drewN ?_ _) | (with_reducible refine Up.setCell ?_ ?_ _) | (with_reducible refine Up.call ?_ (by with_reducible assumption)) | go_size))))
    clear hK K
    (try simp only [Act.put, List.getElem_toArray, List.getElem_cons_zero, List.getElem_cons_succ, List.setIfInBounds_toArray, List.set_cons_zero, List.set_cons_succ])
    refine wpAnyH_ready (rs := [10]) (by decide +kernel) (by simp) ?_
    refine AllReadyH.cons rfl (fun K hK => ?_) (AllReadyH.nil)
    (try simp only [List.getElem_toArray, List.getElem_cons_zero, List.getElem_cons_succ])
    (rw [if_pos (by rfl)]; refine wp_append_lies _ (.tmp 21) (.tmp 26) 60 rfl w.heap.size 59 i0 (.agg #[.int .i64 0, .int .i64 0, .slice none 0 0]) 3 40 Try.underlying60 hi hz0 hz1 hz2 rfl (by decide) (.slice none 0 0) 0 [] rfl (World.ownsRow_nil _ _ _ _) ⟨w.heap.size, 0, none⟩ 1 1 #[.int .i64 W, .int .i64 H, .slice none 0 0].toList rfl rfl (news_at (by (repeat' (first | (with_reducible assumption) | (with_reducible refine Row.at _ _ ?_; (simp; done)) | (with_reducible refine Row.alloc ?_ _) | (with_reducible refine Row.drew ?_) | (with_reducible refine Row.drewN ?_ _) | (with_reducible refine Row.other ?_ (by first | (simp; done) | (simp; omega) | omega) _) | (with_reducible refine Row.up ?_ (by with_reducible assumption)) | (with_reducible refine Row.chg ?_ (by with_reducible assumption) (by first | (simp; done) | (simp; omega)))))) rfl) (by simp [Value.oneCell']) (by decide) (by unfold maxLen; omega) (by omega) (by first | (simp; done) | (simp; omega) | omega) _ rfl ?_; intro g2 cap2 w2 hown2 hgr2 hat hg2; have z2 := hgr2.size; (try simp at z2); have hC2 : Chg [] w w2 := Chg.grown (Chg.of_up (show Up w _ by (repeat' (first | (with_reducible exact Up.refl _) | (with_reducible assumption) | (with_reducible refine Up.alloc ?_ _) | (with_reducible refine Up.drew ?_) | (with_reducible refine Up.drewN ?_ _) | (with_reducible refine Up.setCell ?_ ?_ _) | (with_reducible refine Up.call ?_ (by with_reducible assumption)) | go_size)))) hgr2 (fun k hk => by cases hk); have RC2 : Row w2 c #[.int .i64 W, .int .i64 H, .slice none 0 0, .int .i64 n, .slice none 0 0] := HR.out.chg hC2 (by simp); have HO2 := Lib.hid hown2; have HC2 := Lib.hid hC2; have rb2 := RC2.cell 4 rfl; have rf2 := RC2.free 4; have lc2 := RC2.lt; clear hown2 hgr2 hC2)
    refine hK.out _ _ ?_ (fun hHeld => ?_)
    · exact c3_of RC2
    clear hK K
    (try simp only [Act.put, List.getElem_toArray, List.getElem_cons_zero, List.getElem_cons_succ, List.setIfInBounds_toArray, List.set_cons_zero, List.set_cons_succ])
    refine wpAnyH_take (i := 11) (v := ?_) rfl (by kernel_rfl) (by kernel_rfl) (by kernel_rfl) (fun _ _ _ h => h) (Or.inl ⟨by rfl, ?_⟩) (by assumption) ?_
    rotate_left
    · intro w2 hSw
      (try dsimp only at hSw)
      (try (obtain ⟨s0, s1, s2⟩ := hSw))
      go_simp
      (try (with_reducible rfl))
    (try simp only [Act.put, List.getElem_toArray, List.getElem_cons_zero, List.getElem_cons_succ, List.setIfInBounds_toArray, List.set_cons_zero, List.set_cons_succ])
    refine wpAnyH_take (i := 12) (v := ?_) rfl (by kernel_rfl) (by kernel_rfl) (by kernel_rfl) (fun _ _ _ h => h) (Or.inl ⟨by rfl, ?_⟩) (by assumption) ?_
    rotate_left
    · intro w2 hSw
      (try dsimp only at hSw)
      (try (obtain ⟨s0, s1, s2⟩ := hSw))
      go_simp
      (try (with_reducible rfl))
    (try simp only [Act.put, List.getElem_toArray, List.getElem_cons_zero, List.getElem_cons_succ, List.setIfInBounds_toArray, List.set_cons_zero, List.set_cons_succ])
    refine wpAnyH_ready (rs := [13]) (by decide +kernel) (by simp) ?_
    refine AllReadyH.cons rfl (fun K hK => ?_) (AllReadyH.nil)
    (try simp only [List.getElem_toArray, List.getElem_cons_zero, List.getElem_cons_succ])
    (go_simp)
    refine hK.out _ _ ?_ (fun hHeld => ?_)
    · exact c3_of (Row.put RC2 rfl)
    clear hK K
    (try simp only [Act.put, List.getElem_toArray, List.getElem_cons_zero, List.getElem_cons_succ, List.setIfInBounds_toArray, List.set_cons_zero, List.set_cons_succ])
    refine wpAnyH_done (by kernel_rfl) ?_ _
    generalize hWR : World.setCell _ _ _ = wR
    have hgc : g2 ≠ c := fun e => by have := (owned_new HO2.out).2 g2 rfl; have := HLC.out; omega
    have RR : Row wR c #[.int .i64 W, .int .i64 H, .slice none 0 0, .int .i64 n, .slice (some ⟨g2, 0, none⟩) 1 cap2] := by rw [← hWR]; exact Row.put RC2 rfl
    have HOR : Hid (wR.ownsRow w.heap.size 59 3 (.slice (some ⟨g2, 0, none⟩) 1 cap2) 1 #[.int .i64 W, .int .i64 H, .slice none 0 0].toList) := Lib.hid (by rw [← hWR]; have h1 := HO2.out; simp only [List.nil_append, Nat.zero_add] at h1; exact ownsRow_setCell_other h1 (by simp [Value.ownBlock]; exact hgc) _)
    have HCR : Hid (Chg [c] w wR) := Lib.hid (by rw [← hWR]; exact (HC2.out.mono (by simp)).setCell (Or.inl (by simp)) _)
    have lR := RR.lt
    have cR := RR.cell 2 rfl
    have fR := RR.free 2
    clear hWR hHeld
    go_wp2
    go_ret
    refine ⟨rfl, g2, cap2, Row.put RR rfl, ownsRow_setCell_other HOR.out (by simp [Value.ownBlock]; exact hgc) _, HCR.out.setCell (Or.inl (by simp)) _⟩
  · skip
    (try simp only [List.getElem_toArray, List.getElem_cons_zero, List.getElem_cons_succ])
    (go_simp)
    refine hK.out _ _ ?_ (fun hHeld => ?_)
    · exact c3_of (show Row _ c #[.int .i64 W, .int .i64 H, .slice none 0 0, .int .i64 n, .slice none 0 0] from HR.out.up (by (repeat' (first | (with_reducible exact Up.refl _) | (with_reducible assumption) | (with_reducible refine Up.alloc ?_ _) | (with_reducible refine Up.drew ?_) | (with_reducible refine Up.drewN ?_ _) | (with_reducible refine Up.setCell ?_ ?_ _) | (with_reducible refine Up.call ?_ (by with_reducible assumption)) | go_size))))
    clear hK K
    (try simp only [Act.put, List.getElem_toArray, List.getElem_cons_zero, List.getElem_cons_succ, List.setIfInBounds_toArray, List.set_cons_zero, List.set_cons_succ])
    refine wpAnyH_ready (rs := [4]) (by decide +kernel) (by simp) ?_
    refine AllReadyH.cons rfl (fun K hK => ?_) (AllReadyH.nil)
    (try simp only [List.getElem_toArray, List.getElem_cons_zero, List.getElem_cons_succ])
    (go_simp)
    refine hK.out _ _ ?_ (fun hHeld => ?_)
    · exact c3_of (show Row _ c #[.int .i64 W, .int .i64 H, .slice none 0 0, .int .i64 n, .slice none 0 0] from HR.out.up (by (repeat' (first | (with_reducible exact Up.refl _) | (with_reducible assumption) | (with_reducible refine Up.alloc ?_ _) | (with_reducible refine Up.drew ?_) | (with_reducible refine Up.drewN ?_ _) | (with_reducible refine Up.setCell ?_ ?_ _) | (with_reducible refine Up.call ?_ (by with_reducible assumption)) | go_size))))
    clear hK K
    (try simp only [Act.put, List.getElem_toArray, List.getElem_cons_zero, List.getElem_cons_succ, List.setIfInBounds_toArray, List.set_cons_zero, List.set_cons_succ])
    refine wpAnyH_ready (rs := [10]) (by decide +kernel) (by simp) ?_
    refine AllReadyH.cons rfl (fun K hK => ?_) (AllReadyH.nil)
    (try simp only [List.getElem_toArray, List.getElem_cons_zero, List.getElem_cons_succ])
    (rw [if_pos (by rfl)]; refine wp_append_lies _ (.tmp 21) (.tmp 26) 60 rfl w.heap.size 59 i0 (.agg #[.int .i64 0, .int .i64 0, .slice none 0 0]) 3 40 Try.underlying60 hi hz0 hz1 hz2 rfl (by decide) (.slice none 0 0) 0 [] rfl (World.ownsRow_nil _ _ _ _) ⟨w.heap.size, 0, none⟩ 1 1 #[.int .i64 W, .int .i64 H, .slice none 0 0].toList rfl rfl (news_at (by (repeat' (first | (with_reducible assumption) | (with_reducible refine Row.at _ _ ?_; (simp; done)) | (with_reducible refine Row.alloc ?_ _) | (with_reducible refine Row.drew ?_) | (with_reducible refine Row.drewN ?_ _) | (with_reducible refine Row.other ?_ (by first | (simp; done) | (simp; omega) | omega) _) | (with_reducible refine Row.up ?_ (by with_reducible assumption)) | (with_reducible refine Row.chg ?_ (by with_reducible assumption) (by first | (simp; done) | (simp; omega)))))) rfl) (by simp [Value.oneCell']) (by decide) (by unfold maxLen; omega) (by omega) (by first | (simp; done) | (simp; omega) | omega) _ rfl ?_; intro g2 cap2 w2 hown2 hgr2 hat hg2; have z2 := hgr2.size; (try simp at z2); have hC2 : Chg [] w w2 := Chg.grown (Chg.of_up (show Up w _ by (repeat' (first | (with_reducible exact Up.refl _) | (with_reducible assumption) | (with_reducible refine Up.alloc ?_ _) | (with_reducible refine Up.drew ?_) | (with_reducible refine Up.drewN ?_ _) | (with_reducible refine Up.setCell ?_ ?_ _) | (with_reducible refine Up.call ?_ (by with_reducible assumption)) | go_size)))) hgr2 (fun k hk => by cases hk); have RC2 : Row w2 c #[.int .i64 W, .int .i64 H, .slice none 0 0, .int .i64 n, .slice none 0 0] := HR.out.chg hC2 (by simp); have HO2 := Lib.hid hown2; have HC2 := Lib.hid hC2; have rb2 := RC2.cell 4 rfl; have rf2 := RC2.free 4; have lc2 := RC2.lt; clear hown2 hgr2 hC2)
    refine hK.out _ _ ?_ (fun hHeld => ?_)
    · exact c3_of RC2
    clear hK K
    (try simp only [Act.put, List.getElem_toArray, List.getElem_cons_zero, List.getElem_cons_succ, List.setIfInBounds_toArray, List.set_cons_zero, List.set_cons_succ])
    refine wpAnyH_take (i := 11) (v := ?_) rfl (by kernel_rfl) (by kernel_rfl) (by kernel_rfl) (fun _ _ _ h => h) (Or.inl ⟨by rfl, ?_⟩) (by assumption) ?_
    rotate_left
    · intro w2 hSw
      (try dsimp only at hSw)
      (try (obtain ⟨s0, s1, s2⟩ := hSw))
      go_simp
      (try (with_reducible rfl))
    (try simp only [Act.put, List.getElem_toArray, List.getElem_cons_zero, List.getElem_cons_succ, List.setIfInBounds_toArray, List.set_cons_zero, List.set_cons_succ])
    refine wpAnyH_take (i := 12) (v := ?_) rfl (by kernel_rfl) (by kernel_rfl) (by kernel_rfl) (fun _ _ _ h => h) (Or.inl ⟨by rfl, ?_⟩) (by assumption) ?_
    rotate_left
    · intro w2 hSw
      (try dsimp only at hSw)
      (try (obtain ⟨s0, s1, s2⟩ := hSw))
      go_simp
      (try (with_reducible rfl))
    (try simp only [Act.put, List.getElem_toArray, List.getElem_cons_zero, List.getElem_cons_succ, List.setIfInBounds_toArray, List.set_cons_zero, List.set_cons_succ])
    refine wpAnyH_ready (rs := [13]) (by decide +kernel) (by simp) ?_
    refine AllReadyH.cons rfl (fun K hK => ?_) (AllReadyH.nil)
    (try simp only [List.getElem_toArray, List.getElem_cons_zero, List.getElem_cons_succ])
    (go_simp)
    refine hK.out _ _ ?_ (fun hHeld => ?_)
    · exact c3_of (Row.put RC2 rfl)
    clear hK K
    (try simp only [Act.put, List.getElem_toArray, List.getElem_cons_zero, List.getElem_cons_succ, List.setIfInBounds_toArray, List.set_cons_zero, List.set_cons_succ])
    refine wpAnyH_done (by kernel_rfl) ?_ _
    generalize hWR : World.setCell _ _ _ = wR
    have hgc : g2 ≠ c := fun e => by have := (owned_new HO2.out).2 g2 rfl; have := HLC.out; omega
    have RR : Row wR c #[.int .i64 W, .int .i64 H, .slice none 0 0, .int .i64 n, .slice (some ⟨g2, 0, none⟩) 1 cap2] := by rw [← hWR]; exact Row.put RC2 rfl
    have HOR : Hid (wR.ownsRow w.heap.size 59 3 (.slice (some ⟨g2, 0, none⟩) 1 cap2) 1 #[.int .i64 W, .int .i64 H, .slice none 0 0].toList) := Lib.hid (by rw [← hWR]; have h1 := HO2.out; simp only [List.nil_append, Nat.zero_add] at h1; exact ownsRow_setCell_other h1 (by simp [Value.ownBlock]; exact hgc) _)
    have HCR : Hid (Chg [c] w wR) := Lib.hid (by rw [← hWR]; exact (HC2.out.mono (by simp)).setCell (Or.inl (by simp)) _)
    have lR := RR.lt
    have cR := RR.cell 2 rfl
    have fR := RR.free 2
    clear hWR hHeld
    go_wp2
    go_ret
    refine ⟨rfl, g2, cap2, Row.put RR rfl, ownsRow_setCell_other HOR.out (by simp [Value.ownBlock]; exact hgc) _, HCR.out.setCell (Or.inl (by simp)) _⟩

end Go.Proofs.Yteddlahklilncaa.Pt