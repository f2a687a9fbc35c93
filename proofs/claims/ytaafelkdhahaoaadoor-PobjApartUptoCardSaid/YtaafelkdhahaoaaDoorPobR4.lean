/- Both Sounds of any object. Its condition: an object that is not too large. -/
import Derived.Test.YtaafelkdhahaoaaDoorPobR3
namespace Go.Proofs.YtaafelkdhahaoaaDoor.Pob
open Go.ChangeShapes Go.WideShapes Go.RowKit Go.Shelf
set_option linter.unusedVariables false
set_option linter.unusedSimpArgs false


theorem rsnd_calls : ∀ (m : Nat), m ≤ 100 → ∀ (s : Bool) (j : Nat) (o : PO) (w : World), POk w o → lightR j o = true → Calls Tryd.prog 18 #[.agg o.cells.toArray, .int .i64 (m : Int), .bool s] w fun e w' => e = .returned (.bool (sndR m s o)) ∧ Up w w' := by
  intro m
  induction m with
  | zero =>
    intro hm s j o w h hj
    cases h with
    | mk k n t ka kl kc ks la ll lc l da dl dc d hn hk hl hc hd =>
    obtain ⟨j, rfl, j1, j2, j3, j4, j5, j6⟩ := lightR_elim hj
    have j3 : t.length ≤ 70000 := j3
    rw [show sndR 0 s (.mk k n t ka kl kc ks la ll lc l da dl dc d) = leafR (.mk k n t ka kl kc ks la ll lc l da dl dc d) from rfl]
    show Calls _ _ #[.agg #[.int .i64 k, .int .i64 n, .string ⟨t.toArray⟩, .slice ka kl kc, .slice la ll lc, .slice da dl dc], .int .i64 0, _] _ _
    by_cases hk6 : k = 6
    · subst hk6; exact rsound_z6 n t ka kl kc la ll lc da dl dc s w
    by_cases hk7 : k = 7
    · subst hk7; exact rsound_z7 n t ka kl kc la ll lc da dl dc s w
    by_cases hk9 : k = 9
    · subst hk9; exact rsound_z9 n t ka kl kc la ll lc da dl dc s w
    by_cases hk0 : k = 0
    · subst hk0; exact rsound_k0 n t ka kl kc la ll lc da dl dc _ s _ rfl w j3
    by_cases hk1 : k = 1
    · subst hk1; exact rsound_k1 n t ka kl kc la ll lc da dl dc _ s _ rfl w j3
    by_cases hk2 : k = 2
    · subst hk2; exact rsound_k2 n t ka kl kc la ll lc da dl dc _ s _ rfl w j3
    by_cases hk3 : k = 3
    · subst hk3; exact rsound_k3 n t ka kl kc la ll lc da dl dc _ s _ rfl w j3
    by_cases hk4 : k = 4
    · subst hk4; exact rsound_k4 n t ka kl kc la ll lc da dl dc _ s _ rfl w j3
    by_cases hk5 : k = 5
    · subst hk5; exact rsound_k5 n t ka kl kc la ll lc da dl dc _ s _ rfl w j3
    by_cases hk8 : k = 8
    · subst hk8; exact rsound_k8 n t ka kl kc la ll lc da dl dc _ s _ rfl w j3
    have ho : k < 0 ∨ 9 < k := by omega
    rw [show leafR (.mk k n t ka kl kc ks la ll lc l da dl dc d) = false by simp only [leafR, if_neg hk0, if_neg hk1, if_neg hk2, if_neg hk3, if_neg hk4, if_neg hk5, if_neg hk8]]
    exact rsound_other k n t ka kl kc la ll lc da dl dc _ s ho w
  | succ m ih =>
    intro hm s j o w h hj
    cases h with
    | mk k n t ka kl kc ks la ll lc l da dl dc d hn hk hl hc hd =>
    obtain ⟨j, rfl, j1, j2, j3, j4, j5, j6⟩ := lightR_elim hj
    have j3 : t.length ≤ 70000 := j3
    have j7 : ll ≤ 300 := by rw [← hl.2.2.1]; exact j1
    have j8 : dl ≤ 5000 := by rw [← hd.2.2.1]; exact j4
    have j5 : ∀ x ∈ ks, x.length ≤ 300 := j5
    show Calls _ _ #[.agg #[.int .i64 k, .int .i64 n, .string ⟨t.toArray⟩, .slice ka kl kc, .slice la ll lc, .slice da dl dc], _, _] _ _
    by_cases hk6 : k = 6
    · subst hk6
      rw [show sndR (m + 1) s (.mk 6 n t ka kl kc ks la ll lc l da dl dc d) = (nodeR s (.mk 6 n t ka kl kc ks la ll lc l da dl dc d) && l.all (sndR m false)) by simp only [sndR, leaf_node (o := .mk 6 n t ka kl kc ks la ll lc l da dl dc d) (Or.inl rfl), Bool.false_or, PO.l]]
      exact rsound_k6 n t ka kl kc la ll lc da dl dc ks l s m j (fun c W h1 h2 => ih (by omega) false j c W h1 h2) _ rfl w hk hl hc j6 j5 j7 j8 (by omega)
    by_cases hk7 : k = 7
    · subst hk7
      rw [show sndR (m + 1) s (.mk 7 n t ka kl kc ks la ll lc l da dl dc d) = (nodeR s (.mk 7 n t ka kl kc ks la ll lc l da dl dc d) && l.all (sndR m false)) by simp only [sndR, leaf_node (o := .mk 7 n t ka kl kc ks la ll lc l da dl dc d) (Or.inr (Or.inl rfl)), Bool.false_or, PO.l]]
      exact rsound_k7 n t ka kl kc la ll lc da dl dc ks l s m j (fun c W h1 h2 => ih (by omega) false j c W h1 h2) _ rfl w hk hl hc j6 j5 j7 j8 (by omega)
    by_cases hk9 : k = 9
    · subst hk9
      rw [show sndR (m + 1) s (.mk 9 n t ka kl kc ks la ll lc l da dl dc d) = (nodeR s (.mk 9 n t ka kl kc ks la ll lc l da dl dc d) && l.all (sndR m false)) by simp only [sndR, leaf_node (o := .mk 9 n t ka kl kc ks la ll lc l da dl dc d) (Or.inr (Or.inr rfl)), Bool.false_or, PO.l]]
      cases s
      · exact rsound_k9f n t ka kl kc la ll lc da dl dc ks l m j (fun c W h1 h2 => ih (by omega) false j c W h1 h2) _ rfl w hk hl hc j6 j5 j7 j8 (by omega)
      · exact rsound_k9 n t ka kl kc la ll lc da dl dc ks l m j (fun c W h1 h2 => ih (by omega) false j c W h1 h2) _ rfl w hk hl hc j6 j5 j7 j8 (by omega)
    rw [show sndR (m + 1) s (.mk k n t ka kl kc ks la ll lc l da dl dc d) = leafR (.mk k n t ka kl kc ks la ll lc l da dl dc d) by simp only [sndR, node_leaf (o := .mk k n t ka kl kc ks la ll lc l da dl dc d) (s := s) (by simp only [PO.k, not_or]; exact ⟨hk6, hk7, hk9⟩), Bool.false_and, Bool.or_false]]
    by_cases hk0 : k = 0
    · subst hk0; exact rsound_k0 n t ka kl kc la ll lc da dl dc _ s _ rfl w j3
    by_cases hk1 : k = 1
    · subst hk1; exact rsound_k1 n t ka kl kc la ll lc da dl dc _ s _ rfl w j3
    by_cases hk2 : k = 2
    · subst hk2; exact rsound_k2 n t ka kl kc la ll lc da dl dc _ s _ rfl w j3
    by_cases hk3 : k = 3
    · subst hk3; exact rsound_k3 n t ka kl kc la ll lc da dl dc _ s _ rfl w j3
    by_cases hk4 : k = 4
    · subst hk4; exact rsound_k4 n t ka kl kc la ll lc da dl dc _ s _ rfl w j3
    by_cases hk5 : k = 5
    · subst hk5; exact rsound_k5 n t ka kl kc la ll lc da dl dc _ s _ rfl w j3
    by_cases hk8 : k = 8
    · subst hk8; exact rsound_k8 n t ka kl kc la ll lc da dl dc _ s _ rfl w j3
    have ho : k < 0 ∨ 9 < k := by omega
    rw [show leafR (.mk k n t ka kl kc ks la ll lc l da dl dc d) = false by simp only [leafR, if_neg hk0, if_neg hk1, if_neg hk2, if_neg hk3, if_neg hk4, if_neg hk5, if_neg hk8]]
    exact rsound_other k n t ka kl kc la ll lc da dl dc _ s ho w
/-- both Sounds -/
theorem pSound_calls (j : Nat) (o : PO) (w : World) (h : POk w o) (hj : lightR j o = true) : Calls Tryd.prog 10 #[.agg o.cells.toArray] w fun e w' => e = .returned (.bool (sndR 32 true o)) ∧ Up w w' := by
  obtain ⟨v, hv⟩ : ∃ v, sndR 32 true o = v := ⟨_, rfl⟩
  have HP := Lib.hid (psnd_calls 32 (by decide) j o · · hj)
  rw [hv]
  obtain ⟨k, n, t, ka, kl, kc, ks, la, ll, lc, l, da, dl, dc, d⟩ := o
  have HS : Hid (∀ W, Up w W → Calls Tryd.prog 19 #[.agg #[.int .i64 k, .int .i64 n, .string ⟨t.toArray⟩, .slice ka kl kc, .slice la ll lc, .slice da dl dc], .int .i64 32] W fun e w' => e = .returned (.bool v) ∧ Up W w') := Lib.hid (fun W hu => by rw [← hv]; exact HP.out W (h.up hu))
  show Calls _ _ #[.agg #[.int .i64 k, .int .i64 n, .string ⟨t.toArray⟩, .slice ka kl kc, .slice la ll lc, .slice da dl dc]] _ _
  clear h hj hv HP
  go_enter Tryd.func10, Tryd.ntmps10
  go_wp2_with (go_at_call 19; ((with_reducible refine (HS.out _ (by (repeat' (first | (with_reducible exact Up.refl _) | (with_reducible assumption) | (with_reducible refine Up.alloc ?_ _) | (with_reducible refine Up.drew ?_) | (with_reducible refine Up.drewN ?_ _) | (with_reducible refine Up.setCell ?_ ?_ _) | (with_reducible refine Up.call ?_ (by with_reducible assumption)) | go_size)))).mono ?_); rintro e w1 ⟨rfl, hu1⟩))
  go_ret
  exact ⟨rfl, by (repeat' (first | (with_reducible exact Up.refl _) | (with_reducible assumption) | (with_reducible refine Up.alloc ?_ _) | (with_reducible refine Up.drew ?_) | (with_reducible refine Up.drewN ?_ _) | (with_reducible refine Up.setCell ?_ ?_ _) | (with_reducible refine Up.call ?_ (by with_reducible assumption)) | go_size))⟩
theorem rSound_calls (j : Nat) (o : PO) (w : World) (h : POk w o) (hj : lightR j o = true) : Calls Tryd.prog 9 #[.agg o.cells.toArray] w fun e w' => e = .returned (.bool (sndR 32 true o)) ∧ Up w w' := by
  obtain ⟨v, hv⟩ : ∃ v, sndR 32 true o = v := ⟨_, rfl⟩
  have HP := Lib.hid (rsnd_calls 32 (by decide) true j o · · hj)
  rw [hv]
  obtain ⟨k, n, t, ka, kl, kc, ks, la, ll, lc, l, da, dl, dc, d⟩ := o
  have HS : Hid (∀ W, Up w W → Calls Tryd.prog 18 #[.agg #[.int .i64 k, .int .i64 n, .string ⟨t.toArray⟩, .slice ka kl kc, .slice la ll lc, .slice da dl dc], .int .i64 32, .bool true] W fun e w' => e = .returned (.bool v) ∧ Up W w') := Lib.hid (fun W hu => by rw [← hv]; exact HP.out W (h.up hu))
  show Calls _ _ #[.agg #[.int .i64 k, .int .i64 n, .string ⟨t.toArray⟩, .slice ka kl kc, .slice la ll lc, .slice da dl dc]] _ _
  clear h hj hv HP
  go_enter Tryd.func9, Tryd.ntmps9
  go_wp2_with (go_at_call 18; ((with_reducible refine (HS.out _ (by (repeat' (first | (with_reducible exact Up.refl _) | (with_reducible assumption) | (with_reducible refine Up.alloc ?_ _) | (with_reducible refine Up.drew ?_) | (with_reducible refine Up.drewN ?_ _) | (with_reducible refine Up.setCell ?_ ?_ _) | (with_reducible refine Up.call ?_ (by with_reducible assumption)) | go_size)))).mono ?_); rintro e w1 ⟨rfl, hu1⟩))
  go_ret
  exact ⟨rfl, by (repeat' (first | (with_reducible exact Up.refl _) | (with_reducible assumption) | (with_reducible refine Up.alloc ?_ _) | (with_reducible refine Up.drew ?_) | (with_reducible refine Up.drewN ?_ _) | (with_reducible refine Up.setCell ?_ ?_ _) | (with_reducible refine Up.call ?_ (by with_reducible assumption)) | go_size))⟩

end Go.Proofs.YtaafelkdhahaoaaDoor.Pob
